-- Part 8 of the texts of the claim CX (wrote by programs: words of the kit's print.sh, printed functions; and my own texts; joined by wip/tools/pack.py).
import Derived.Test.YtfhgomcfpmbhnaaCX7
import Derived.Deep.DrawnRows

section
namespace Go.Proofs.Ytfhgomcfpmbhnaa.Y
open Go.RowKit Go.Proofs.Ytfhgomcfpmbhnaa.PS Go.Proofs.Ytfhgomcfpmbhnaa.F Go.Proofs.YtfhgomcfpmbhnaaW.PrintWords Go.Proofs.YtfhgomcfpmbhnaaW.PrintMore Go.Proofs.YtfhgomcfpmbhnaaW.Fits
attribute [local go_sem] frun_add frun_sub frun_mul frun_quo frun_neg frun_of frun_same frun_store frun_bits frun_from
attribute [local go_sem] max2_int min2_int max_two min_two
attribute [local go_sem ↓] Go.wp_at_zero Go.wp_at_succ
set_option linter.unusedVariables false
set_option maxRecDepth 100000
def sumF : Nat → List S58 → Nat
  | s, [] => s
  | s, q :: t => sumF (fl_add s q.f1) t
def SumOk : Nat → List S58 → Prop
  | _, [] => True
  | s, q :: t => fk_add s q.f1 = true ∧ SumOk (fl_add s q.f1) t
theorem sumF_succ : ∀ (t : List S58) (s j : Nat) (h : j < t.length), sumF s (t.take (j + 1)) = fl_add (sumF s (t.take j)) (t.getD j z58).f1
  | [], _, _, h => by simp at h
  | q :: t, s, 0, _ => by simp [sumF]
  | q :: t, s, j + 1, h => by
    simp only [List.take_succ_cons, sumF, List.getD_cons_succ]
    exact sumF_succ t _ j (by simpa using h)
theorem sumOk_at : ∀ (t : List S58) (s j : Nat) (h : j < t.length), SumOk s t → fk_add (sumF s (t.take j)) (t.getD j z58).f1 = true
  | [], _, _, h, _ => by simp at h
  | q :: t, s, 0, _, ok => by simpa [sumF] using ok.1
  | q :: t, s, j + 1, h, ok => by
    simp only [List.take_succ_cons, sumF, List.getD_cons_succ]
    exact sumOk_at t _ j (by simpa using h) ok.2
def nearL (l : List S58) (h i : Nat) : List S58 := (l.take (min l.length (i + h + 1))).drop (i - h)
def sumN (l : List S58) (h i : Nat) : Nat := sumF ((nearL l h i).getD 0 z58).f1 ((nearL l h i).drop 1)
def SmoothOk (l : List S58) (h : Nat) : Prop := ∀ i, i < l.length → SumOk ((nearL l h i).getD 0 z58).f1 ((nearL l h i).drop 1) ∧ fk_quo (sumN l h i) (fl_of ((nearL l h i).length : Int)) = true
def smoothL (l : List S58) (h n : Nat) : List S58 := (List.range n).map fun i => ⟨(l.getD i z58).f0, fl_quo (sumN l h i) (fl_of ((nearL l h i).length : Int))⟩
theorem smoothL_succ (l : List S58) (h n : Nat) : smoothL l h (n + 1) = smoothL l h n ++ [⟨(l.getD n z58).f0, fl_quo (sumN l h n) (fl_of ((nearL l h n).length : Int))⟩] := by
  unfold smoothL
  rw [List.range_succ, List.map_append]
  rfl
theorem pntv_snoc (l : List S58) (p : S58) : pntv (l ++ [p]) = pntv l ++ [.int .i64 p.f0, .float .f32 p.f1] := by
  unfold pntv two
  rw [List.flatMap_append]
  rfl
theorem own_drewN {w : World} {base : Nat} {e : TypeId} {size n : Nat} {v : Value} {xs : List Value} (h : w.ownsRow base e size v n xs) (k : Nat) : (w.drewN k).ownsRow base e size v n xs := h
theorem own_drew {w : World} {base : Nat} {e : TypeId} {size n : Nat} {v : Value} {xs : List Value} (h : w.ownsRow base e size v n xs) : w.drew.ownsRow base e size v n xs := h
theorem nearL_len (l : List S58) (h i : Nat) (hi : i < l.length) : (nearL l h i).length = min l.length (i + h + 1) - (i - h) ∧ 0 < (nearL l h i).length := by
  have : (nearL l h i).length = min l.length (i + h + 1) - (i - h) := by
    unfold nearL
    rw [List.length_drop, List.length_take]
    omega
  omega
theorem near_cuts (A : Option Addr) (c0 : Nat) (l : List S58) (h i : Nat) (w : World) (hlt : i < l.length) (hr : Kd.C k58 w A l.length l) (hc : l.length ≤ c0) :
    ∃ (ad1 : Addr) (A2 : Option Addr) (m c1 c2 : Nat), (nearL l h i).length = m + 1 ∧
      (∀ W : World, (Instr.slice 31 (.slice A l.length c0) (some (.int .i64 ((i - h : Nat) : Int))) (some (.int .i64 ((min l.length (i + h + 1) : Nat) : Int))) none).run Try.prog W = .ok (.slice (some ad1) (m + 1) c1) W) ∧
      (∀ W : World, (Instr.slice 31 (.slice (some ad1) (m + 1) c1) (some (.int .i64 1)) none none).run Try.prog W = .ok (.slice A2 m c2) W) ∧
      Kd.C k58 w (some ad1) (m + 1) (nearL l h i) ∧ Kd.C k58 w A2 m ((nearL l h i).drop 1) ∧ m + 1 ≤ c1 ∧ m ≤ c2 := by
  obtain ⟨i0, hi0, hz0, hz1, hz2⟩ := info_parts info58
  obtain ⟨n1, n2⟩ := nearL_len l h i hlt
  have hmid := cut_mid (P := Try.prog) 31 58 .i64 .i64 Try.underlying31 hi0 2 hz1 A l.length c0 ((i - h : Nat) : Int) ((min l.length (i + h + 1) : Nat) : Int) (by omega) (by omega) (by omega) hc
  have hC1 := Kd.C_mid (k := k58) (c := c0) (lo := i - h) (hi := min l.length (i + h + 1)) hr (by omega) (by omega) hc
  change Kd.C k58 w _ (nearL l h i).length (nearL l h i) at hC1
  obtain ⟨ad1, e1, _⟩ := hC1.2.2 n2
  obtain ⟨m, hm⟩ : ∃ m, (nearL l h i).length = m + 1 := ⟨(nearL l h i).length - 1, by omega⟩
  simp only [Int.toNat_natCast] at hmid
  have e2 : (if c0 = i - h then A else A.map fun x => x.add ((i - h) * 2)) = some ad1 := e1
  rw [e2, ← n1, hm] at hmid
  rw [e1, hm] at hC1
  have hfrom := cut_from (P := Try.prog) 31 58 .i64 Try.underlying31 hi0 2 hz1 (some ad1) (m + 1) (c0 - (i - h)) 1 (by omega) (by omega)
  have hC2 := Kd.C_drop (k := k58) (m := 1) (c := c0 - (i - h)) (hm.symm ▸ hC1) (by omega) (by omega)
  refine ⟨ad1, _, m, c0 - (i - h), c0 - (i - h) - 1, hm, hmid, hfrom, hC1, ?_, by omega, by omega⟩
  have hd : ((nearL l h i).drop 1).length = m := by rw [List.length_drop]; omega
  rw [hd] at hC2
  exact hC2
set_option maxHeartbeats 4000000 in
theorem smooth_ok (A : Option Addr) (c0 : Nat) (l : List S58) (a1 : Int) (h : Nat) (w : World) (hr : Kd.C k58 w A l.length l) (hc : l.length ≤ c0) (hlen : l.length < 8796093022208) (h1 : 1 ≤ a1) (h15 : a1 ≤ 15) (hq : a1 / 2 = (h : Int)) (hodd : (a1 % 2 == 0) = false) (k : Nat) (hord : curve_ordered.f k l = some true) (hok : SmoothOk l h) :
    Calls Try.prog 27 #[.slice A l.length c0, .int .i64 a1] w fun e w' => ∃ v0_ : Value, e = .returned (.tuple #[v0_, .int .i64 0]) ∧ w'.ownsRow w.heap.size 58 2 v0_ l.length (pntv (smoothL l h l.length)) ∧ Below w.heap.size w w' := by
  have HR := Aside0.mk hr
  have HOK := Aside0.mk hok
  have HL := Aside0.mk hlen
  have HC := Aside0.mk hc
  clear hr hok
  have n1 : decide (a1 < 1) = false := decide_eq_false (by omega)
  have n15 : decide (15 < a1) = false := decide_eq_false (by omega)
  go_enter Try.func27, Try.ntmps27
  go_wp2_with fail
  go_at_call 48
  with_reducible refine (curve_ordered.calls k A c0 l true w HR.out HC.out hord).mono ?_
  rintro e w1 ⟨rfl, hb⟩
  have HB0 := Aside0.mk hb
  clear hb
  go_wp2_with fail
  go_loopg [6, 29] (l.length + 1) (fun kq v6 v29 w' => ∃ i : Nat, v29 = .int .i64 (i : Int) ∧ Aside0 (kq + i = l.length + 1) ∧ Aside0 (i ≤ l.length) ∧ Aside0 (w'.ownsRow w.heap.size 58 2 v6 i (pntv (smoothL l h i))) ∧ Aside0 (Below w.heap.size w w'))
  case atStart => exact ⟨0, rfl, ⟨by omega⟩, ⟨by omega⟩, ⟨own_nil _ _ _ _⟩, HB0⟩
  case round =>
    obtain ⟨i, rfl, HK, HI, HO, HB⟩ := hrel
    cases gk with
    | zero => exact absurd HK.out (by have := HI.out; omega)
    | succ k1 =>
      by_cases hlt : i < l.length
      · have hb0 : decide ((i : Int) < (l.length : Int)) = true := decide_eq_true (by omega)
        obtain ⟨ad, e1, hx0, hx1⟩ := at_T58 HR.out (i : Int) (by omega) (by omega)
        cases e1
        rw [Int.toNat_natCast] at hx0 hx1
        replace hx0 := (HB.out.cell (World.block_lt_of_cell? w _ hx0)).trans hx0
        replace hx1 := (HB.out.cell (World.block_lt_of_cell? w _ hx1)).trans hx1
        obtain ⟨X, hX⟩ : ∃ X, (rd_T58 l (i : Int)).f0 = X := ⟨_, rfl⟩
        obtain ⟨Y, hY⟩ : ∃ Y, (rd_T58 l (i : Int)).f1 = Y := ⟨_, rfl⟩
        rw [hX] at hx0
        rw [hY] at hx1
        have HX := Aside0.mk hX
        have HY := Aside0.mk hY
        clear hX hY
        have hn8 : (l.length : Int) < 8796093022208 := by omega
        have hi8 : (i : Int) < (l.length : Int) := by omega
        have hh7 : (h : Int) ≤ 7 := by omega
        have hlo : (if h < i then (i : Int) - (h : Int) else 0) = ((i - h : Nat) : Int) := by split <;> omega
        have hhi : (if (i : Int) + (h : Int) + 1 < (l.length : Int) then (i : Int) + (h : Int) + 1 else (l.length : Int)) = ((min l.length (i + h + 1) : Nat) : Int) := by split <;> omega
        obtain ⟨lo, hlo'⟩ : ∃ lo : Nat, i - h = lo := ⟨_, rfl⟩
        obtain ⟨hi, hhi'⟩ : ∃ hi : Nat, min l.length (i + h + 1) = hi := ⟨_, rfl⟩
        have hmids := near_cuts (some ad) c0 l h i w hlt HR.out HC.out
        rw [hlo', hhi'] at hmids
        rw [hlo'] at hlo
        rw [hhi'] at hhi
        clear hlo' hhi'
        obtain ⟨ad1, A2, m, c1, c2, hm, hmid, hfrom, hC1, hC2, hmc1, hmc2⟩ := hmids
        obtain ⟨ad1', e1, _, hs1⟩ := at_T58 hC1 0 (by omega) (by omega)
        cases e1
        rw [show (0 : Int).toNat * 2 = 0 from rfl] at hs1
        replace hs1 := (HB.out.cell (World.block_lt_of_cell? w _ hs1)).trans hs1
        rw [show (ad1.add 0) = ad1 from rfl] at hs1
        obtain ⟨S0, hS0⟩ : ∃ S0, (rd_T58 (nearL l h i) 0).f1 = S0 := ⟨_, rfl⟩
        rw [hS0] at hs1
        have HS0 := Aside0.mk hS0
        have HC1 := Aside0.mk hC1
        have HC2 := Aside0.mk hC2
        have HM := Aside0.mk hm
        have hm1 : decide ((0 : Int) < (m : Int) + 1) = true := decide_eq_true (by omega)
        clear hS0 hC1 hC2 hm
        go_upto_region 9 with (fail)
        apply wp_region_lit
        refine Kd.event_run rfl rfl ?_
        refine Kd.event_run rfl rfl ?_
        refine Kd.event_run rfl rfl ?_
        refine Kd.event_run (v := .int .i64 (h : Int)) (w1 := wr.alloc (.cells #[.int .i64 X, .float .f32 Y] 58)) rfl (by go_simp; rw [Int.tdiv_eq_ediv_of_nonneg (by omega), hq]; exact Go.IntWalk.i64_in _ (by omega)) ?_
        refine Kd.event_run (v := .int .i64 ((i : Int) - (h : Int))) (w1 := wr.alloc (.cells #[.int .i64 X, .float .f32 Y] 58)) rfl (by go_simp; exact Go.IntWalk.i64_in _ (by omega)) ?_
        refine Kd.event_run (v := .int .i64 (lo : Int)) (w1 := wr.alloc (.cells #[.int .i64 X, .float .f32 Y] 58)) rfl (by go_simp) ?_
        refine Kd.event_run rfl rfl ?_
        refine Kd.event_run (v := .int .i64 (l.length : Int)) (w1 := wr.alloc (.cells #[.int .i64 X, .float .f32 Y] 58)) rfl (by go_simp) ?_
        refine Kd.event_run rfl rfl ?_
        refine Kd.event_run rfl rfl ?_
        refine Kd.event_run (v := .int .i64 (h : Int)) (w1 := wr.alloc (.cells #[.int .i64 X, .float .f32 Y] 58)) rfl (by go_simp; rw [Int.tdiv_eq_ediv_of_nonneg (by omega), hq]; exact Go.IntWalk.i64_in _ (by omega)) ?_
        refine Kd.event_run (v := .int .i64 ((i : Int) + (h : Int))) (w1 := wr.alloc (.cells #[.int .i64 X, .float .f32 Y] 58)) rfl (by go_simp; exact Go.IntWalk.i64_in _ (by omega)) ?_
        refine Kd.event_run (v := .int .i64 ((i : Int) + (h : Int) + 1)) (w1 := wr.alloc (.cells #[.int .i64 X, .float .f32 Y] 58)) rfl (by go_simp; exact Go.IntWalk.i64_in _ (by omega)) ?_
        refine Kd.event_run (v := .int .i64 (hi : Int)) (w1 := wr.alloc (.cells #[.int .i64 X, .float .f32 Y] 58)) rfl (by go_simp) ?_
        refine Kd.event_run (v := .slice (some ad1) (m + 1) c1) (w1 := wr.alloc (.cells #[.int .i64 X, .float .f32 Y] 58)) rfl (by go_simp) ?_
        refine Kd.event_run rfl rfl ?_
        apply wpList_nil
        clear hlo hhi hmid
        go_simp
        have hBW : Below wr.heap.size wr (wr.alloc (.cells #[.int .i64 X, .float .f32 Y] 58)) := (Below.refl _ _).alloc (Nat.le_refl _) _
        have hbk : (wr.alloc (.cells #[.int .i64 X, .float .f32 Y] 58)).heap[wr.heap.size]? = some (.cells #[.int .i64 X, .float .f32 Y] 58 (0, 0)) := blk_new wr _
        replace hs1 := (hBW.cell (World.block_lt_of_cell? wr _ hs1)).trans hs1
        have HO2 := Aside0.mk (pw_own_below HO.out hBW)
        have HB2 := Aside0.mk (below_then HB.out HB.out.size hBW)
        have HGB := Aside0.mk HB.out.size
        have hc2' : wr.heap.size < (wr.alloc (.cells #[.int .i64 X, .float .f32 Y] 58)).heap.size := by simp
        have HNE : Aside0 (∀ k, u6.ownBlock = some k → k < wr.heap.size) := ⟨fun k hk => own_lt HO.out k hk⟩
        clear hBW hx0 hx1 HO HB
        generalize wr.alloc (.cells #[.int .i64 X, .float .f32 Y] 58) = w2 at hbk hs1 HO2 HB2 hc2' ⊢
        generalize wr.heap.size = gb at hbk HO2 HGB hc2' HNE ⊢
        have HBK := Aside0.mk hbk
        have HGB2 := Aside0.mk hc2'
        clear hbk hc2'
        go_upto_region 10 with (fail)
        go_upto_region 11 with (fail)
        go_wp2_with fail
        clear hfrom hm1 hs1
        go_loopg [10, 12, 56] (m + 1) (fun kq v10 v12 v56 w' => ∃ j : Nat, v56 = .int .i64 (j : Int) ∧ v10 = .float .f32 (sumF S0 (((nearL l h i).drop 1).take j)) ∧ Aside0 (kq + j = m + 1) ∧ Aside0 (j ≤ m) ∧ Aside0 (Below w2.heap.size w2 w'))
        case atStart => exact ⟨0, rfl, rfl, ⟨by omega⟩, ⟨by omega⟩, ⟨Below.refl _ _⟩⟩
        case round =>
          obtain ⟨j, rfl, rfl, HK2, HJ, HB3⟩ := hrel
          cases gk with
          | zero => exact absurd HK2.out (by have := HJ.out; omega)
          | succ k2 =>
            by_cases hj : j < m
            · have hb1 : decide ((j : Int) < (m : Int)) = true := decide_eq_true (by omega)
              obtain ⟨ad2, e2, hy0, hy1⟩ := at_T58 HC2.out (j : Int) (by omega) (by omega)
              cases e2
              rw [Int.toNat_natCast] at hy0 hy1
              have hBel : Below w.heap.size w wr := below_then HB2.out (Nat.le_trans HGB.out (Nat.le_of_lt HGB2.out)) HB3.out
              replace hy0 := (hBel.cell (World.block_lt_of_cell? w _ hy0)).trans hy0
              replace hy1 := (hBel.cell (World.block_lt_of_cell? w _ hy1)).trans hy1
              have hd : ((nearL l h i).drop 1).length = m := by rw [List.length_drop, HM.out]; rfl
              have hfk := sumOk_at _ S0 j (by rw [hd]; exact hj) (by rw [← HS0.out]; exact (HOK.out i hlt).1)
              have hss := sumF_succ _ S0 j (by rw [hd]; exact hj)
              obtain ⟨X2, hX2⟩ : ∃ X2, (rd_T58 ((nearL l h i).drop 1) (j : Int)).f0 = X2 := ⟨_, rfl⟩
              obtain ⟨Y2, hY2⟩ : ∃ Y2, (rd_T58 ((nearL l h i).drop 1) (j : Int)).f1 = Y2 := ⟨_, rfl⟩
              rw [hX2] at hy0
              rw [hY2] at hy1
              have e3 : (((nearL l h i).drop 1).getD j z58).f1 = Y2 := hY2
              rw [e3] at hfk hss
              generalize hs' : sumF S0 (((nearL l h i).drop 1).take j) = s0 at hfk hss ⊢
              have HSS := Aside0.mk hss
              clear hss e3 hX2 hY2 hs' hBel hd
              have hj8 : (j : Int) < 8796093022208 := by have := HM.out; have := (nearL_len l h i hlt).1; omega
              have p1 : (j : Int) < (m : Int) := by omega
              go_wp2_with fail
              go_roundg k2
              case measure => omega
              case rel => exact ⟨j + 1, by simp, by rw [HSS.out], ⟨by have := HK2.out; omega⟩, ⟨by omega⟩, ⟨(HB3.out.alloc HB3.out.size _)⟩⟩
            · have hjm : j = m := by have := HJ.out; omega
              subst hjm
              have hb1 : decide ((j : Int) < (j : Int)) = false := decide_eq_false (by omega)
              have hbx : wr.cell? ⟨gb, 0, none⟩ = some (.int .i64 X) := (HB3.out.cell HGB2.out).trans (blk_cell HBK.out 0)
              have HO3 := Aside0.mk (pw_own_below HO2.out HB3.out)
              have hd : ((nearL l h i).drop 1).length = j := by rw [List.length_drop, HM.out]; rfl
              have e0 : (nearL l h i).getD 0 z58 = rd_T58 (nearL l h i) 0 := rfl
              have hsum : sumF S0 (((nearL l h i).drop 1).take j) = sumN l h i := by
                rw [List.take_of_length_le (by omega)]
                unfold sumN
                rw [e0, HS0.out]
              have hq2 := (HOK.out i hlt).2
              rw [HM.out] at hq2
              rw [hsum]
              have hcast : ((j + 1 : Nat) : Int) = (j : Int) + 1 := by omega
              rw [hcast] at hq2
              have hsn : smoothL l h (i + 1) = smoothL l h i ++ [⟨X, fl_quo (sumN l h i) (fl_of ((j : Int) + 1))⟩] := by
                rw [smoothL_succ, HM.out, hcast, ← HX.out]
                rfl
              have HSN := Aside0.mk hsn
              clear hsn hcast hsum e0 hd
              generalize sumN l h i = SN at hq2 HSN ⊢
              have hbase : w.heap.size ≤ wr.heap.size := Nat.le_trans (Nat.le_trans HGB.out (Nat.le_of_lt HGB2.out)) HB3.out.size
              obtain ⟨i0, hi0, hz0, hz1, hz2⟩ := info_parts info58
              go_upto_region 16 with (fail)
              go_region_held3 (fun w' => w'.cell? ⟨gb, 0, none⟩ = some (.int .i64 X)) (first | assumption | go_keep)
                (first | (go_at_call 33; refine (curve_whole.calls _ _ _ rfl).mono ?_; rintro e w' ⟨rfl, ⟨⟨nd, rfl⟩⟩⟩) | (refine step_append_lies _ (by rfl) _ _ _ (by rfl) w.heap.size 58 i0 (.agg #[.int .i64 0, .float .f32 0]) 2 16 Try.underlying31 hi0 hz0 hz1 hz2 rfl (by omega) u6 i (pntv (smoothL l h i)) (by rfl) (by first | exact HO3.out.alloc _ | exact own_drewN (HO3.out.alloc _) _ | exact own_drew (HO3.out.alloc _)) ⟨wr.heap.size, 0, none⟩ 1 1 [.int .i64 X, .float .f32 (fl_quo SN (fl_of ((j : Int) + 1)))] (by rfl) (by rfl) (World.news_of_block (cs := #[.int .i64 X, .float .f32 (fl_quo SN (fl_of ((j : Int) + 1)))]) (t := 58) (fr := (0, 0)) (by first | exact heap_alloc_new wr _)) (by simp [Value.oneCell']) (by omega) (by unfold maxLen; omega) (by omega) (by simp; omega) (wr.heap.size + 1) (by simp) ?_; intro g3 cap3 w3 hown3 hgrow3 hat3 hlt3; have hby : w3.cell? ⟨gb, 0, none⟩ = some (.int .i64 X) := (hgrow3.cell_far ⟨gb, 0, none⟩ (Nat.lt_of_lt_of_le (Nat.lt_of_lt_of_le HGB2.out HB3.out.size) (by simp)) (fun he => by have := HNE.out gb he.symm; omega)).trans (pw_cell_below ((Below.refl _ wr).alloc (Nat.le_refl _) _) hbx)))
              go_wp2_with fail
              go_roundg k1
              case measure => omega
              case rel =>
                refine ⟨i + 1, by simp, ⟨by have := HK.out; omega⟩, ⟨by omega⟩, ⟨by rw [HSN.out, pntv_snoc]; exact hown3⟩, ⟨?_⟩⟩
                have hb4 : Below w.heap.size w wr := below_then HB2.out (Nat.le_trans HGB.out (Nat.le_of_lt HGB2.out)) HB3.out
                exact (pw_below_drewN (hb4.alloc hbase _) _).grown hgrow3 (Nat.le_trans hbase (by simp)) (fun k hk => own_base HO3.out k hk)
      · obtain rfl : i = l.length := by have := HI.out; omega
        have hb0 : decide ((l.length : Int) < (l.length : Int)) = false := decide_eq_false (by omega)
        go_wp2
        go_ret2
        exact ⟨_, rfl, HO.out, HB.out⟩
end Go.Proofs.Ytfhgomcfpmbhnaa.Y
end
