-- Part 9 of the texts of the claim CL (wrote by programs: words of the kit's print.sh, printed functions; and my own texts; joined by wip/tools/pack.py).
import Derived.Deep.DrawnRows
import Derived.Test.YtfhgomcfpmbhnaaCL8
import Derived.StillTailTactics

section
namespace Go.Proofs.Ytfhgomcfpmbhnaa.Y
open Go Go.RowKit Go.Proofs.Ytfhgomcfpmbhnaa.PS Go.Proofs.Ytfhgomcfpmbhnaa.F Go.Proofs.YtfhgomcfpmbhnaaW.PrintWords Go.Proofs.YtfhgomcfpmbhnaaW.PrintMore Go.Proofs.YtfhgomcfpmbhnaaW.Fits
attribute [local go_sem] frun_add frun_sub frun_mul frun_quo frun_neg frun_of frun_same frun_store frun_bits frun_from
attribute [local go_sem ↓] Go.wp_at_zero Go.wp_at_succ
set_option linter.unusedVariables false
set_option maxRecDepth 100000
def Refuses (w : World) (c : Int) (e : Ending) (w' : World) : Prop := e = .returned (.tuple #[.slice none 0 0, .int .i64 c]) ∧ Below w.heap.size w w'
def nanAt (w : World) (x y : Nat) : Nat := (Question.nanBits .f32 x y).cut (w.tape w.drawn (.nanBits .f32 x y))
theorem frun_sub_nan {P : Program} {w : World} {t : TypeId} {x y : Nat} (h : fk_sub x y = false) : (binOp .sub t (.float .f32 x) (.float .f32 y)).run P w = .ok (.float .f32 (nanAt w x y)) w.drew := by
  have hn : Ieee.single.sub x y = none := by
    unfold fk_sub at h
    cases hs : Ieee.single.sub x y with
    | none => rfl
    | some r => rw [hs] at h; cases h
  have hn' : FloatKind.f32.format.sub x y = none := hn
  simp [binOp, Op.floatArith, hn', Question.forced, nanAt]
theorem nanAt_is (w : World) (x y : Nat) : nanAt w x y < 4294967296 ∧ 2139095040 < nanAt w x y % 2147483648 := by
  unfold nanAt
  generalize w.tape w.drawn (.nanBits .f32 x y) = t
  show (t % 2) * 2 ^ 31 + 0x7f800000 + 1 + (t / 2) % (2 ^ 23 - 1) < 4294967296 ∧ 2139095040 < ((t % 2) * 2 ^ 31 + 0x7f800000 + 1 + (t / 2) % (2 ^ 23 - 1)) % 2147483648
  have hz : (t / 2) % (2 ^ 23 - 1) < 2 ^ 23 - 1 := Nat.mod_lt _ (by decide)
  generalize (t / 2) % (2 ^ 23 - 1) = z at hz ⊢
  rcases Nat.mod_two_eq_zero_or_one t with h | h <;> rw [h] <;> omega
def absF (d : Nat) : Nat := if (FloatKind.f32.format.order d 0 == some Ordering.lt) = true then fl_neg d else d
def geF (d y : Nat) : Bool := (FloatKind.f32.format.order d y == some Ordering.gt) || (FloatKind.f32.format.order d y == some Ordering.eq)
def isJump (l : List S58) (least : Nat) (i : Nat) : Bool := fk_sub (l.getD i z58).f1 (l.getD (i - 1) z58).f1 && geF (absF (fl_sub (l.getD i z58).f1 (l.getD (i - 1) z58).f1)) least
def jumpsL (l : List S58) (least : Nat) (n : Nat) : List Int := List.map (fun i : Nat => (i : Int)) ((List.range' 1 (n - 1)).filter (isJump l least))
theorem jumpsL_succ (l : List S58) (least : Nat) (n : Nat) (h : 1 ≤ n) : jumpsL l least (n + 1) = jumpsL l least n ++ if isJump l least n = true then [(n : Int)] else [] := by
  unfold jumpsL
  rw [show n + 1 - 1 = (n - 1) + 1 by omega, List.range'_concat, List.filter_append, List.map_append, show 1 + 1 * (n - 1) = n by omega]
  congr 1
  by_cases hj : isJump l least n = true
  · rw [if_pos hj]; simp [hj]
  · rw [if_neg hj]; simp [hj]
theorem jumpsL_len (l : List S58) (least : Nat) (n : Nat) : (jumpsL l least n).length ≤ n := by
  unfold jumpsL
  rw [List.length_map]
  have := List.length_filter_le (isJump l least) (List.range' 1 (n - 1))
  rw [List.length_range'] at this
  omega
theorem rd58 (l : List S58) (i : Nat) : rd_T58 l (i : Int) = l.getD i z58 := rfl
attribute [local go_sem] frun_sub_nan
theorem info3' : (Try.prog.info? 3).map (fun i => (i.zero, i.size, i.bytes)) = some (some (.int .i64 0), 1, 8) := by kernel_rfl
set_option maxHeartbeats 4000000 in

theorem jumps_calls (A : Option Addr) (c0 : Nat) (l : List S58) (least : Nat) (w : World) (hr : Kd.C k58 w A l.length l) (hc : l.length ≤ c0) (hlen : l.length < 8796093022208) (hleast : least < 4294967296) :
    Calls Try.prog 32 #[.slice A l.length c0, .float .f32 least] w fun e w' => ∃ v0_ : Value, e = .returned v0_ ∧ w'.ownsRow w.heap.size 3 1 v0_ (jumpsL l least l.length).length (nums .i64 (jumpsL l least l.length)) ∧ Below w.heap.size w w' := by
  have HR := Aside0.mk hr
  have HL := Aside0.mk hlen
  have HC := Aside0.mk hc
  have HLE := Aside0.mk hleast
  clear hr hlen hleast hc
  go_enter Try.func32, Try.ntmps32
  go_wp2
  go_loopg [5, 6] (l.length + 2) (fun kq v5 v6 w' => ∃ i : Nat, v6 = .int .i64 (i : Int) ∧ Aside0 (1 ≤ i) ∧ Aside0 (kq + i = l.length + 3) ∧ Aside0 (i ≤ l.length ∨ i = 1) ∧ Aside0 (w'.ownsRow w.heap.size 3 1 v5 (jumpsL l least i).length (nums .i64 (jumpsL l least i))) ∧ Aside0 (Below w.heap.size w w'))
  case atStart => exact ⟨1, rfl, ⟨by omega⟩, ⟨by omega⟩, ⟨by omega⟩, ⟨(own_nil w _ 3 1 : w.ownsRow w.heap.size 3 1 (.slice none 0 0) 0 [])⟩, ⟨Below.refl _ _⟩⟩
  case round =>
    obtain ⟨i, rfl, H1, HK, HI, HO, HB⟩ := hrel
    cases gk with
    | zero => exact absurd HK.out (by have := HI.out; omega)
    | succ k1 =>
      by_cases hlt : i < l.length
      · have hb0 : decide ((i : Int) < (l.length : Int)) = true := decide_eq_true (by omega)
        have h1 := H1.out
        obtain ⟨ad, e1, hx0, hx1⟩ := at_T58 HR.out (i : Int) (by omega) (by omega)
        cases e1
        obtain ⟨ad', e1, hy0, hy1⟩ := at_T58 HR.out ((i - 1 : Nat) : Int) (by omega) (by omega)
        cases e1
        rw [Int.toNat_natCast] at hx0 hx1 hy0 hy1
        replace hx1 := (HB.out.cell (World.block_lt_of_cell? w _ hx1)).trans hx1
        replace hy1 := (HB.out.cell (World.block_lt_of_cell? w _ hy1)).trans hy1
        clear hx0 hy0
        obtain ⟨Y, hY⟩ : ∃ Y, (rd_T58 l (i : Int)).f1 = Y := ⟨_, rfl⟩
        obtain ⟨Z, hZ⟩ : ∃ Z, (rd_T58 l ((i - 1 : Nat) : Int)).f1 = Z := ⟨_, rfl⟩
        rw [hY] at hx1
        rw [hZ] at hy1
        have HJ := Aside0.mk (jumpsL_succ l least i h1)
        have hji : isJump l least i = (fk_sub Y Z && geF (absF (fl_sub Y Z)) least) := by
          unfold isJump
          rw [← rd58 l i, ← rd58 l (i - 1), hY, hZ]
        have HJI := Aside0.mk hji
        clear hji hY hZ
        obtain ⟨m, rfl⟩ : ∃ m, i = m + 1 := ⟨i - 1, by omega⟩
        rw [show m + 1 - 1 = m by omega] at hy1
        have hn8 : (l.length : Int) < 8796093022208 := by have := HL.out; omega
        have hi8 : (m : Int) + 1 < (l.length : Int) := by omega
        have q0 : (0 : Int) ≤ (m : Int) + 1 := by omega
        have q1 : (m : Int) < (l.length : Int) := by omega
        have q2 : (0 : Int) ≤ (m : Int) := by omega
        have q3 : IntKind.i64.wrap (m : Int) = (m : Int) := Go.IntWalk.i64_in _ (by omega)
        have q4 : ((m : Int) + 1).toNat = m + 1 := by omega
        have hjl := jumpsL_len l least (m + 1)
        obtain ⟨i0, hi0, hz0, hz1, hz2⟩ := info_parts info3'
        have HI0 := Aside0.mk hi0
        have HZ0 := Aside0.mk hz0
        have HZ1 := Aside0.mk hz1
        have HZ2 := Aside0.mk hz2
        clear hi0 hz0 hz1 hz2
        by_cases hk : fk_sub Y Z = true
        · go_wp2_with fail
          go_quiet (fail)
          rw [hk] at HJI
          generalize fl_sub Y Z = D at HJI ⊢
          clear hx1 hy1 hk
          by_cases hs : (FloatKind.f32.format.order D 0 == some Ordering.lt) = true
          · have ha : absF D = fl_neg D := by unfold absF; rw [if_pos hs]
            rw [ha] at HJI
            by_cases hge : geF (fl_neg D) least = true
            · have HGE := Aside0.mk hge
              replace hge : (FloatKind.f32.format.order (fl_neg D) least == some Ordering.gt || FloatKind.f32.format.order (fl_neg D) least == some Ordering.eq) = true := hge
              clear q0 q1 q2 q3 q4
              go_wp2_with (first | (at_builtin; refine wpList_append_own _ rfl _ _ 66 rfl w.heap.size 3 i0 (.int .i64 0) 1 8 Try.underlying66 HI0.out HZ0.out HZ1.out HZ2.out rfl (by decide) u5 (jumpsL l least (m + 1)).length (nums .i64 (jumpsL l least (m + 1))) rfl (by first | exact HO.out.alloc _ | exact own_drewN (HO.out.alloc _) _ | exact own_drew (HO.out.alloc _)) ⟨wr.heap.size, 0, none⟩ 1 1 [.int .i64 ((m : Int) + 1)] rfl rfl (World.news_of_block (cs := #[.int .i64 ((m : Int) + 1)]) (t := 3) (fr := (0, 0)) (by first | exact heap_alloc_new wr _)) (by simp [Value.oneCell']) (by have := HL.out; unfold maxLen; omega) (by have := HL.out; omega) (by simp; exact Nat.le_succ_of_le HB.out.size) ?_; intro v1 w3 hown3 hgrow3 _))
              go_roundg k1
              case measure => omega
              case rel =>
                have hl3 : jumpsL l least (m + 1 + 1) = jumpsL l least (m + 1) ++ [((m + 1 : Nat) : Int)] := by rw [HJ.out, if_pos (by rw [HJI.out]; simpa using HGE.out)]
                refine ⟨m + 2, by simp; omega, ⟨by omega⟩, ⟨by have := HK.out; omega⟩, ⟨by omega⟩, ⟨by rw [hl3, List.length_append, nums_append]; exact hown3⟩, ⟨(pw_below_drewN (HB.out.alloc HB.out.size _) _).grown hgrow3 (Nat.le_trans HB.out.size (by simp)) (fun k hk => own_base HO.out k hk)⟩⟩
            · replace hge : geF (fl_neg D) least = false := by simpa using hge
              have HGE := Aside0.mk hge
              replace hge : (FloatKind.f32.format.order (fl_neg D) least == some Ordering.gt || FloatKind.f32.format.order (fl_neg D) least == some Ordering.eq) = false := hge
              clear q0 q1 q2 q3 q4
              go_wp2_with fail
              go_roundg k1
              case measure => omega
              case rel =>
                have hl3 : jumpsL l least (m + 1 + 1) = jumpsL l least (m + 1) := by rw [HJ.out, if_neg (by rw [HJI.out]; simp [HGE.out]), List.append_nil]
                refine ⟨m + 2, by simp; omega, ⟨by omega⟩, ⟨by have := HK.out; omega⟩, ⟨by omega⟩, ⟨by rw [hl3]; exact own_drewN HO.out _⟩, ⟨pw_below_drewN HB.out _⟩⟩
          · replace hs : (FloatKind.f32.format.order D 0 == some Ordering.lt) = false := by simpa using hs
            have ha : absF D = D := by unfold absF; rw [if_neg (by rw [hs]; simp)]
            rw [ha] at HJI
            by_cases hge : geF D least = true
            · have HGE := Aside0.mk hge
              replace hge : (FloatKind.f32.format.order D least == some Ordering.gt || FloatKind.f32.format.order D least == some Ordering.eq) = true := hge
              clear q0 q1 q2 q3 q4
              go_wp2_with (first | (at_builtin; refine wpList_append_own _ rfl _ _ 66 rfl w.heap.size 3 i0 (.int .i64 0) 1 8 Try.underlying66 HI0.out HZ0.out HZ1.out HZ2.out rfl (by decide) u5 (jumpsL l least (m + 1)).length (nums .i64 (jumpsL l least (m + 1))) rfl (by first | exact HO.out.alloc _ | exact own_drewN (HO.out.alloc _) _ | exact own_drew (HO.out.alloc _)) ⟨wr.heap.size, 0, none⟩ 1 1 [.int .i64 ((m : Int) + 1)] rfl rfl (World.news_of_block (cs := #[.int .i64 ((m : Int) + 1)]) (t := 3) (fr := (0, 0)) (by first | exact heap_alloc_new wr _)) (by simp [Value.oneCell']) (by have := HL.out; unfold maxLen; omega) (by have := HL.out; omega) (by simp; exact Nat.le_succ_of_le HB.out.size) ?_; intro v1 w3 hown3 hgrow3 _))
              go_roundg k1
              case measure => omega
              case rel =>
                have hl3 : jumpsL l least (m + 1 + 1) = jumpsL l least (m + 1) ++ [((m + 1 : Nat) : Int)] := by rw [HJ.out, if_pos (by rw [HJI.out]; simpa using HGE.out)]
                refine ⟨m + 2, by simp; omega, ⟨by omega⟩, ⟨by have := HK.out; omega⟩, ⟨by omega⟩, ⟨by rw [hl3, List.length_append, nums_append]; exact hown3⟩, ⟨(pw_below_drewN (HB.out.alloc HB.out.size _) _).grown hgrow3 (Nat.le_trans HB.out.size (by simp)) (fun k hk => own_base HO.out k hk)⟩⟩
            · replace hge : geF D least = false := by simpa using hge
              have HGE := Aside0.mk hge
              replace hge : (FloatKind.f32.format.order D least == some Ordering.gt || FloatKind.f32.format.order D least == some Ordering.eq) = false := hge
              clear q0 q1 q2 q3 q4
              go_wp2_with fail
              go_roundg k1
              case measure => omega
              case rel =>
                have hl3 : jumpsL l least (m + 1 + 1) = jumpsL l least (m + 1) := by rw [HJ.out, if_neg (by rw [HJI.out]; simp [HGE.out]), List.append_nil]
                refine ⟨m + 2, by simp; omega, ⟨by omega⟩, ⟨by have := HK.out; omega⟩, ⟨by omega⟩, ⟨by rw [hl3]; exact own_drewN HO.out _⟩, ⟨pw_below_drewN HB.out _⟩⟩
        · replace hk : fk_sub Y Z = false := by simpa using hk
          go_wp2_with fail
          rw [hk] at HJI
          go_still_tail 11, (by kernel_rfl)
          have hw : ({ wr with drawn := wr.drawn + 1 } : World) = wr.drew := rfl
          rw [hw]
          refine Kd.event_run (v := .float .f32 (nanAt wr.drew Y Z)) (w1 := wr.drew.drew) rfl (by go_simp) ?_
          refine Kd.event_run rfl rfl ?_
          apply wpList_nil
          obtain ⟨hD0, hD1⟩ := nanAt_is wr.drew Y Z
          generalize nanAt wr.drew Y Z = D at hD0 hD1 ⊢
          have hs : (FloatKind.f32.format.order D 0 == some Ordering.lt) = false := by
            have : FloatKind.f32.format.order D 0 = none := order_nan D 0 hD0 (by omega) (.inl hD1)
            rw [this]; rfl
          have hge : (FloatKind.f32.format.order D least == some Ordering.gt || FloatKind.f32.format.order D least == some Ordering.eq) = false := by
            have : FloatKind.f32.format.order D least = none := order_nan D least hD0 HLE.out (.inl hD1)
            rw [this]; rfl
          clear hD0 hD1 q0 q1 q2 q3 q4 hk hx1 hy1 hw
          go_simp
          go_wp2_with fail
          go_roundg k1
          case measure => omega
          case rel =>
            have hl3 : jumpsL l least (m + 1 + 1) = jumpsL l least (m + 1) := by rw [HJ.out, if_neg (by rw [HJI.out]; simp), List.append_nil]
            refine ⟨m + 2, by simp; omega, ⟨by omega⟩, ⟨by have := HK.out; omega⟩, ⟨by omega⟩, ⟨by rw [hl3]; exact own_drew (own_drew HO.out)⟩, ⟨pw_below_drewN HB.out 2⟩⟩
      · have hb0 : decide ((i : Int) < (l.length : Int)) = false := decide_eq_false (by omega)
        have hge : jumpsL l least i = jumpsL l least l.length := by
          rcases Nat.lt_or_ge l.length i with h | h
          · have : i = 1 := by have := HI.out; omega
            have : l.length = 0 := by omega
            simp [*, jumpsL]
          · rw [show i = l.length by omega]
        have HO2 := HO.out
        rw [hge] at HO2
        go_wp2
        go_ret
        exact ⟨_, rfl, HO2, HB.out⟩
end Go.Proofs.Ytfhgomcfpmbhnaa.Y
end

section
namespace Go.Proofs.Ytfhgomcfpmbhnaa.F
open Go.RowKit Go.Proofs.Ytfhgomcfpmbhnaa.Y Go.Proofs.Ytfhgomcfpmbhnaa.PS Ieee
open Go.Proofs.YtfhgomcfpmbhnaaW.PrintWords Go.Proofs.YtfhgomcfpmbhnaaW.PrintMore
set_option linter.unusedVariables false
set_option linter.unusedSimpArgs false
theorem fl_neg_is (d : Nat) (h0 : 2147483648 ≤ d) (h1 : d < 4294967296) : fl_neg d = d - 2147483648 := by
  obtain ⟨r, rfl⟩ : ∃ r, d = 2 ^ 31 + r := ⟨d - 2147483648, by omega⟩
  have hr : r < 2 ^ 31 := by omega
  have e : fl_neg (2 ^ 31 + r) = (2 ^ 31 + r) ^^^ 2 ^ 31 := rfl
  rw [e, show 2 ^ 31 + r - 2147483648 = r by omega]
  refine Nat.eq_of_testBit_eq fun j => ?_
  rw [Nat.testBit_xor, Nat.testBit_two_pow]
  rcases Nat.lt_trichotomy j 31 with hj | hj | hj
  · rw [Nat.testBit_two_pow_add_gt hj, decide_eq_false (by omega), Bool.xor_false]
  · subst hj
    rw [Nat.testBit_two_pow_add_eq, decide_eq_true rfl, Nat.testBit_lt_two_pow hr]
    rfl
  · have p : 2 ^ 32 ≤ 2 ^ j := Nat.pow_le_pow_right (by decide) hj
    rw [Nat.testBit_lt_two_pow (by omega), decide_eq_false (by omega), Nat.testBit_lt_two_pow (by omega)]
    rfl
theorem cmp_eq (a b : Int) : (some (compare a b) == some Ordering.eq) = decide (a = b) := by
  rcases Int.lt_trichotomy a b with h | h | h
  · rw [show compare a b = .lt from Int.compare_eq_lt.2 h, decide_eq_false (by omega)]; rfl
  · rw [show compare a b = .eq from Int.compare_eq_eq.2 h, decide_eq_true h]; rfl
  · rw [show compare a b = .gt from Int.compare_eq_gt.2 h, decide_eq_false (by omega)]; rfl
theorem geF_is (x y : Nat) (hx : x < 4294967296) (hy : y < 4294967296) (nx : x % 2147483648 ≤ 2139095040) (ny : y % 2147483648 ≤ 2139095040) : geF x y = decide (ordI y ≤ ordI x) := by
  have e : FloatKind.f32.format.order x y = some (compare (ordI x) (ordI y)) := order_is x y hx hy nx ny
  unfold geF
  rw [e, cmp_gt, cmp_eq, Bool.eq_iff_iff]
  simp only [Bool.or_eq_true, decide_eq_true_eq]
  omega
end Go.Proofs.Ytfhgomcfpmbhnaa.F
end

section
namespace Go.Proofs.Ytfhgomcfpmbhnaa.F
open Go.RowKit Go.Proofs.Ytfhgomcfpmbhnaa.Y Go.Proofs.Ytfhgomcfpmbhnaa.PS Ieee
open Go.Proofs.YtfhgomcfpmbhnaaW.PrintWords Go.Proofs.YtfhgomcfpmbhnaaW.PrintMore
set_option linter.unusedVariables false
set_option linter.unusedSimpArgs false
def AllFin (t : List S58) : Prop := ∀ q ∈ t, q.f1 < 4294967296 ∧ q.f1 % 2147483648 < 2139095040
section
variable {l : List S73} (hg : Good l) (hl : l.length < 8796093022208) (ho : InOrd l l.length) (h : Nat) (hh : h ≤ 7)
include hg hl ho hh
end
end Go.Proofs.Ytfhgomcfpmbhnaa.F
end

section
namespace Go.Proofs.Ytfhgomcfpmbhnaa.Y
open Go.RowKit Go.Proofs.Ytfhgomcfpmbhnaa.PS Go.Proofs.Ytfhgomcfpmbhnaa.F Go.Proofs.YtfhgomcfpmbhnaaW.PrintWords Go.Proofs.YtfhgomcfpmbhnaaW.PrintMore
attribute [local go_sem] frun_bits frun_from
set_option linter.unusedVariables false
set_option maxRecDepth 100000
theorem C_own58 {w : World} {base n : Nat} {v : Value} {xs : List S58} (hn : xs.length = n) (h : w.ownsRow base 58 2 v n (pntv xs)) : ∃ A c, v = .slice A n c ∧ n ≤ c ∧ Kd.C k58 w A n xs := by
  rcases h.2 with ⟨rfl, rfl⟩ | ⟨g, cap, cur, rfl, _, _, h1, h2, _⟩
  · obtain rfl : xs = [] := List.eq_nil_of_length_eq_zero hn
    exact ⟨none, 0, rfl, Nat.le_refl _, Kd.C_nil k58 w⟩
  · refine ⟨some ⟨g, 0, none⟩, cap, rfl, h1, C_pnt hn.symm (by unfold maxLen at h2; omega) (fun j u hu => ?_)⟩
    have := h.cells (g := g) rfl j u hu
    rwa [add_plain] at this
theorem C_ownI {w : World} {base n : Nat} {v : Value} {xs : List Int} (hn : xs.length = n) (h : w.ownsRow base 3 1 v n (nums .i64 xs)) : ∃ A c, v = .slice A n c ∧ n ≤ c ∧ Kd.C (Kd.int .i64) w A n xs := by
  rcases h.2 with ⟨rfl, rfl⟩ | ⟨g, cap, cur, rfl, _, _, h1, h2, _⟩
  · obtain rfl : xs = [] := List.eq_nil_of_length_eq_zero hn
    exact ⟨none, 0, rfl, Nat.le_refl _, Kd.C_nil _ w⟩
  · refine ⟨some ⟨g, 0, none⟩, cap, rfl, h1, hn, by unfold maxLen at h2; omega, fun _ => ⟨_, rfl, fun j p hj => ⟨[.int .i64 p], rfl, rfl, fun i u hu => ?_⟩⟩⟩
    have e : (nums .i64 xs)[j]? = some (.int .i64 p) := by unfold nums; rw [List.getElem?_map, hj]; rfl
    have := h.cells (g := g) rfl j _ e
    match i, hu with
    | 0, hu =>
      obtain rfl : Value.int .i64 p = u := by simpa using hu
      rw [show j * (Kd.int .i64).sz + 0 = j by show j * 1 + 0 = j; omega]
      exact this
    | i + 1, hu => simp at hu
def GivesOne {α : Type} (d : Kd α) (n : Nat) (xs : List α) (w : World) (e : Ending) (w' : World) : Prop := ∃ A c, e = .returned (.slice A n c) ∧ n ≤ c ∧ d.C w' A n xs ∧ Below w.heap.size w w'
def GivesTwo {α : Type} (d : Kd α) (n : Nat) (xs : List α) (r : Int) (w : World) (e : Ending) (w' : World) : Prop := ∃ A c, e = .returned (.tuple #[.slice A n c, .int .i64 r]) ∧ n ≤ c ∧ d.C w' A n xs ∧ Below w.heap.size w w'
end Go.Proofs.Ytfhgomcfpmbhnaa.Y
end

section
namespace Go.Proofs.Ytfhgomcfpmbhnaa.PS
open Go.RowKit Go.Proofs.YtfhgomcfpmbhnaaW.PrintWords
structure S29 where
  f0 : Int
  f1 : Int
def z29 : S29 := ⟨(0 : Int), (0 : Int)⟩
def k29 : Kd S29 := Kd.iso (Kd.pair (Kd.int .i64) (Kd.int .i64)) (fun x : S29 => (x.f0, x.f1))
end Go.Proofs.Ytfhgomcfpmbhnaa.PS
namespace Go.Proofs.Ytfhgomcfpmbhnaa.Y
open Go.RowKit Go.Proofs.Ytfhgomcfpmbhnaa.PS Go.Proofs.Ytfhgomcfpmbhnaa.F Go.Proofs.YtfhgomcfpmbhnaaW.PrintWords Go.Proofs.YtfhgomcfpmbhnaaW.PrintMore
set_option linter.unusedVariables false
set_option maxRecDepth 100000
structure Kp (g : Nat) (row : Option Nat) (w w' : World) : Prop where
  os : w'.os = w.os
  tape : w'.tape = w.tape
  output : w'.output = w.output
  size : w.heap.size ≤ w'.heap.size
  block : ∀ k, k < w.heap.size → k ≠ g → some k ≠ row → w'.heap[k]? = w.heap[k]?
theorem Kp.of_below {g : Nat} {row : Option Nat} {w w' : World} (h : Below w.heap.size w w') : Kp g row w w' := ⟨h.os, h.tape, h.output, h.size, fun k hk _ _ => h.block k hk⟩
theorem Kp.trans {g : Nat} {r r1 : Option Nat} {w w1 w2 : World} (h : Kp g r w w1) (k : Kp g r1 w1 w2) (hr : r1 = r ∨ ∃ b, r1 = some b ∧ w.heap.size ≤ b) : Kp g r w w2 :=
  ⟨k.os.trans h.os, k.tape.trans h.tape, k.output.trans h.output, Nat.le_trans h.size k.size, fun i hi hg hn => (k.block i (Nat.lt_of_lt_of_le hi h.size) hg (by
    rcases hr with rfl | ⟨b, rfl, hb⟩
    · exact hn
    · intro e; injection e with e; omega)).trans (h.block i hi hg hn)⟩
theorem Kp.grown {g : Nat} {r r1 : Option Nat} {w w1 w2 : World} (h : Kp g r w w1) (k : w1.grownBy w2 r1) (hr : r1 = r ∨ ∃ b, r1 = some b ∧ w.heap.size ≤ b) : Kp g r w w2 :=
  h.trans ⟨k.os, k.tape, k.output, k.size, fun i hi _ hn => k.block i hi hn⟩ hr
theorem Kp.set {g : Nat} {r : Option Nat} {w w1 : World} (h : Kp g r w w1) (j : Nat) (u : Value) : Kp g r w (w1.setCell ⟨g, j, none⟩ u) :=
  ⟨h.os, h.tape, h.output, by simpa [World.setCell] using h.size, fun i hi hg hn => (Below.heap_setCell w1 ⟨g, j, none⟩ u i hg).trans (h.block i hi hg hn)⟩
theorem Kp.alloc {g : Nat} {r : Option Nat} {w w1 : World} (h : Kp g r w w1) (o : Obj) : Kp g r w (w1.alloc o) :=
  ⟨h.os, h.tape, h.output, Nat.le_trans h.size (by simp), fun i hi hg hn => (Below.heap_alloc w1 o i (Nat.lt_of_lt_of_le hi h.size)).trans (h.block i hi hg hn)⟩
theorem Kp.drewN {g : Nat} {r : Option Nat} {w w1 : World} (h : Kp g r w w1) (n : Nat) : Kp g r w (w1.drewN n) := ⟨h.os, h.tape, h.output, h.size, h.block⟩
theorem Kp.refl (g : Nat) (r : Option Nat) (w : World) : Kp g r w w := ⟨rfl, rfl, rfl, Nat.le_refl _, fun _ _ _ _ => rfl⟩
structure Asked (w : World) (base g : Nat) (v : Value) (xs : List Int) : Prop where
  blk : w.heap[g]? = some (.cells #[v] 24 (0, 0))
  own : w.ownsRow base 2 1 v xs.length (nums .i64 xs)
theorem Asked.keep {w w' : World} {base g : Nat} {v : Value} {xs : List Int} (h : Asked w base g v xs) (hg : w'.heap[g]? = w.heap[g]?) (hr : ∀ k, v.ownBlock = some k → w'.heap[k]? = w.heap[k]?) : Asked w' base g v xs :=
  ⟨hg.trans h.blk, own_move h.own hr⟩
theorem Asked.below {w w' : World} {base g : Nat} {v : Value} {xs : List Int} (h : Asked w base g v xs) (hb : Below w.heap.size w w') : Asked w' base g v xs :=
  h.keep (hb.block g (blk_lt h.blk)) (fun k hk => hb.block k (own_lt h.own k hk))
def valAt (vals : List S29) (n : Nat) : S29 := if vals.length = 0 then z29 else vals.getD (n % vals.length) z29
theorem reads_move {α : Type} {R R' : α → List Value → Prop} {size : Nat} {w w1 : World} {A : Option Addr} {n : Nat} {ps : List α} (h : ReadsRow R size w A n ps) (hb : ∀ ad, A = some ad → 0 < n → w1.heap[ad.block]? = w.heap[ad.block]?) (hR : ∀ p c, R p c → R' p c) : ReadsRow R' size w1 A n ps :=
  ⟨h.1, h.2.1, fun hn => by
    obtain ⟨ad, e, hc⟩ := h.2.2 hn
    refine ⟨ad, e, fun j p hj => ?_⟩
    obtain ⟨c, hs, hr, hcell⟩ := hc j p hj
    refine ⟨c, hs, hR _ _ hr, fun i u hu => ?_⟩
    have h1 := hcell i u hu
    have h2 : (ad.add (j * size + i)).block = ad.block := add_block _ _
    rw [← h1]
    simp only [World.cell?, h2, hb ad e hn]⟩
end Go.Proofs.Ytfhgomcfpmbhnaa.Y
end

section
namespace Go.Proofs.Ytfhgomcfpmbhnaa.Y
open Go Go.RowKit Go.Proofs.Ytfhgomcfpmbhnaa.PS Go.Proofs.Ytfhgomcfpmbhnaa.F Go.Proofs.YtfhgomcfpmbhnaaW.PrintWords Go.Proofs.YtfhgomcfpmbhnaaW.PrintMore Go.Proofs.YtfhgomcfpmbhnaaW.Fits
attribute [local go_sem] frun_add frun_sub frun_mul frun_quo frun_neg frun_of frun_same frun_store frun_bits frun_from
set_option linter.unusedVariables false
set_option maxRecDepth 100000
def placeAt (fr st : Int) (i : Nat) : Int := wrap64 (fr + wrap64 ((i : Int) * st))
def placesL (fr st : Int) (k : Nat) : List Int := (List.range k).map (placeAt fr st)
theorem placesL_succ (fr st : Int) (k : Nat) : placesL fr st (k + 1) = placesL fr st k ++ [placeAt fr st k] := by
  unfold placesL
  rw [List.range_succ, List.map_append]
  rfl
def keeps (v : S29) : Bool := v.f0 == 1 || v.f0 == 2
def sampleL (fr st : Int) (vals : List S29) : Nat → List S58
  | 0 => []
  | k + 1 => sampleL fr st vals k ++ (if keeps (valAt vals k) then [⟨placeAt fr st k, fl_of (valAt vals k).f1⟩] else [])
theorem Asked.drewN {w : World} {base g : Nat} {v : Value} {xs : List Int} (h : Asked w base g v xs) (k : Nat) : Asked (w.drewN k) base g v xs := ⟨h.blk, h.own⟩
structure Samp (fr st : Int) (vals : List S29) (w : World) (ga gv m cv : Nat) (AV : Option Addr) (i : Nat) (v10 va : Value) (w' : World) : Prop where
  out : w'.ownsRow w.heap.size 58 2 v10 (sampleL fr st vals i).length (pntv (sampleL fr st vals i))
  asked : Asked w' w.heap.size ga va (placesL fr st i)
  kp : Kp ga none w w'
theorem Samp.apart {fr st : Int} {vals : List S29} {w w' : World} {ga gv m cv i : Nat} {AV : Option Addr} {v10 va : Value} (h : Samp fr st vals w ga gv m cv AV i v10 va w')
    (hV : w.heap[gv]? = some (.cells #[.slice AV m cv] 23 (0, 0))) (hr : Kd.C k29 w AV m vals) (hne : ga ≠ gv) (hap : ∀ ad, AV = some ad → 0 < m → ad.block ≠ ga ∧ ad.block < w.heap.size) :
    w'.heap[gv]? = some (.cells #[.slice AV m cv] 23 (0, 0)) ∧ Kd.C k29 w' AV m vals ∧ (∀ ad, AV = some ad → 0 < m → ad.block ≠ ga ∧ some ad.block ≠ va.ownBlock ∧ ad.block < w'.heap.size) := by
  have hk : ∀ k, k < w.heap.size → k ≠ ga → w'.heap[k]? = w.heap[k]? := fun k h1 h2 => h.kp.block k h1 h2 (by simp)
  refine ⟨(hk gv (blk_lt hV) (Ne.symm hne)).trans hV, reads_move hr (fun ad e h0 => hk _ (hap ad e h0).2 (hap ad e h0).1) (fun p c hp => by
      obtain ⟨_, _, rfl, rfl, rfl⟩ := hp
      exact ⟨_, _, rfl, rfl, rfl⟩), fun ad e h0 => ⟨(hap ad e h0).1, fun hb => ?_, Nat.lt_of_lt_of_le (hap ad e h0).2 h.kp.size⟩⟩
  have := own_base h.asked.own _ hb.symm
  have := (hap ad e h0).2
  omega
theorem Samp.call {fr st : Int} {vals : List S29} {w w' w1 : World} {ga gv m cv i : Nat} {AV : Option Addr} {v10 va va' : Value} (h : Samp fr st vals w ga gv m cv AV i v10 va w')
    (hA : Asked w1 w.heap.size ga va' (placesL fr st i ++ [placeAt fr st i])) (hk : Kp ga va.ownBlock w' w1) (hb : va'.ownBlock = va.ownBlock ∨ ∃ b, va'.ownBlock = some b ∧ w'.heap.size ≤ b) :
    w1.ownsRow w.heap.size 58 2 v10 (sampleL fr st vals i).length (pntv (sampleL fr st vals i)) ∧ Asked w1 w.heap.size ga va' (placesL fr st (i + 1)) ∧ Kp ga none w w1 := by
  refine ⟨own_move h.out (fun k hk1 => hk.block k (own_lt h.out k hk1) ?_ ?_), by rw [placesL_succ]; exact hA, ?_⟩
  · rintro rfl
    exact own_ne h.out h.asked.blk (by decide) hk1.symm
  · intro e
    obtain ⟨c1, e1⟩ := own_typed h.out k hk1
    obtain ⟨c2, e2⟩ := own_typed h.asked.own k e.symm
    rw [e1] at e2
    injection e2 with e2
    injection e2 with _ e3
    exact absurd e3 (by decide)
  · rcases hvb : va.ownBlock with _ | b
    · exact h.kp.trans (hvb ▸ hk) (.inl rfl)
    · exact h.kp.trans hk (.inr ⟨b, hvb, own_base h.asked.own b hvb⟩)
theorem boxed {w w1 : World} {base ga : Nat} {v10 va : Value} {ps : List S58} {xs : List Int} (h : w1.ownsRow base 58 2 v10 ps.length (pntv ps) ∧ Asked w1 base ga va xs ∧ Kp ga none w w1) (o : Obj) (k : Nat) :
    ((w1.alloc o).drewN k).ownsRow base 58 2 v10 ps.length (pntv ps) ∧ Asked ((w1.alloc o).drewN k) base ga va xs ∧ Kp ga none w ((w1.alloc o).drewN k) :=
  ⟨own_drewN (h.1.alloc o) k, ⟨blk_alloc h.2.1.blk o, (h.2.1.own.alloc o)⟩, (h.2.2.alloc o).drewN k⟩
end Go.Proofs.Ytfhgomcfpmbhnaa.Y
end

section
namespace Go.Proofs.Ytfhgomcfpmbhnaa.Y
open Go Go.RowKit Go.Proofs.Ytfhgomcfpmbhnaa.PS Go.Proofs.Ytfhgomcfpmbhnaa.F Go.Proofs.YtfhgomcfpmbhnaaW.PrintWords Go.Proofs.YtfhgomcfpmbhnaaW.PrintMore Go.Proofs.YtfhgomcfpmbhnaaW.Fits
set_option linter.unusedVariables false
set_option maxRecDepth 100000
def BadStep (fr st n : Int) : Prop := st < 1 ∨ fr < -9999999999999 ∨ 9999999999999 < fr ∨ (1 < n ∧ (9999999999999 - fr) / (n - 1) < st)
instance (fr st n : Int) : Decidable (BadStep fr st n) := inferInstanceAs (Decidable (_ ∨ _))
end Go.Proofs.Ytfhgomcfpmbhnaa.Y
end

section
namespace Go.Proofs.Ytfhgomcfpmbhnaa.Y
open Go Go.RowKit Go.Proofs.Ytfhgomcfpmbhnaa.PS Go.Proofs.Ytfhgomcfpmbhnaa.F Go.Proofs.YtfhgomcfpmbhnaaW.PrintWords Go.Proofs.YtfhgomcfpmbhnaaW.PrintMore Go.Proofs.YtfhgomcfpmbhnaaW.Fits
attribute [local go_sem] frun_add frun_sub frun_mul frun_quo frun_neg frun_of frun_same frun_store frun_bits frun_from
set_option linter.unusedVariables false
set_option maxRecDepth 100000
theorem whole_quiet (x : Int) (W : World) (n : Nat) : Calls Try.prog 33 #[.int .i64 x] (W.drewN n) fun e w'' => e = .returned (.float .f32 (fl_of x)) ∧ ∃ m, w'' = W.drewN m := by
  refine (curve_whole.calls x (fl_of x) _ rfl).mono ?_
  rintro e w' ⟨rfl, ⟨⟨nd, hnd⟩⟩⟩
  exact ⟨rfl, n + nd, by rw [hnd, World.drewN_drewN]⟩
theorem frun_int (w : World) (x : Nat) (n : Int) (h : (FloatKind.f32.decode x).toInt .zero = some n) (h0 : 0 ≤ n) (h1 : n ≤ 1000) : (convert 56 3 (.float .f32 x)).run Try.prog w = .ok (.int .i64 n) w := by
  have hm : IntKind.i64.min ≤ n ∧ n ≤ IntKind.i64.max := ⟨Int.le_trans (by decide) h0, Int.le_trans h1 (by decide)⟩
  simp [convert, run_underlying Try.underlying3, run_underlying Try.underlying56, Conv.floatToInt, go_sem, h, hm]
  intro h2
  omega
set_option maxHeartbeats 4000000 in
theorem row_zero (a b y : Nat) (h : Int) (w : World) (hb : (FloatKind.f32.format.order b 0 == some Ordering.eq) = true) :
    Calls Try.prog 51 #[.agg #[.float .f32 a, .float .f32 b, .int .i64 h], .float .f32 y] w (fun e w' => e = .returned (.int .i64 0) ∧ Below w.heap.size w w') := by
  go_enter Try.func51, Try.ntmps51
  go_wp2_with fail
  go_ret
  exact ⟨rfl, (Below.refl _ _).alloc (Nat.le_refl _) _⟩
set_option maxHeartbeats 4000000 in
theorem row_calls (a b y : Nat) (h : Int) (w : World) (hb : (FloatKind.f32.format.order b 0 == some Ordering.eq) = false) (h1 : 1 ≤ h) (h2 : h ≤ 1000) (k1 : fk_sub y a = true) (k2 : fk_quo (fl_sub y a) b = true) (k3 : fk_mul (fl_quo (fl_sub y a) b) (fl_of (h - 1)) = true) (k4 : fk_add (fl_mul (fl_quo (fl_sub y a) b) (fl_of (h - 1))) 1056964608 = true)
    (n : Int) (hn : (FloatKind.f32.decode (fl_add (fl_mul (fl_quo (fl_sub y a) b) (fl_of (h - 1))) 1056964608)).toInt .zero = some n) (n0 : 0 ≤ n) (n1 : n ≤ 1000) :
    Calls Try.prog 51 #[.agg #[.float .f32 a, .float .f32 b, .int .i64 h], .float .f32 y] w (fun e w' => e = .returned (.int .i64 n) ∧ Below w.heap.size w w') := by
  have HB := Aside0.mk ((Below.refl w.heap.size w).alloc (Nat.le_refl _) (.cells #[.float .f32 a, .float .f32 b, .int .i64 h] 92))
  have hbk := blk_new w (.cells #[.float .f32 a, .float .f32 b, .int .i64 h] 92)
  have g0 : (w.alloc (.cells #[.float .f32 a, .float .f32 b, .int .i64 h] 92)).cell? ⟨w.heap.size, 0, none⟩ = some (.float .f32 a) := (blk_cell hbk 0).trans rfl
  have g1 : (w.alloc (.cells #[.float .f32 a, .float .f32 b, .int .i64 h] 92)).cell? ⟨w.heap.size, 1, none⟩ = some (.float .f32 b) := (blk_cell hbk 1).trans rfl
  have g2 : (w.alloc (.cells #[.float .f32 a, .float .f32 b, .int .i64 h] 92)).cell? ⟨w.heap.size, 2, none⟩ = some (.int .i64 h) := (blk_cell hbk 2).trans rfl
  clear hbk
  have hw : IntKind.i64.wrap (h - 1) = h - 1 := by rw [IntKind.wrap_i64]; omega
  go_enter Try.func51, Try.ntmps51
  go_wp2_with fail
  go_quiet ((go_at_call 33; exact whole_quiet _ _ _))
  have HBQ := Aside0.mk (pw_below_drewN HB.out nq)
  clear g0 g1 g2 HB
  generalize (w.alloc (.cells #[.float .f32 a, .float .f32 b, .int .i64 h] 92)).drewN nq = wq at HBQ ⊢
  have hi := frun_int wq _ n hn n0 n1
  have ha := frun_add (P := Try.prog) (t := 56) (w := wq) k4
  go_upto_region 4 with (fail)
  apply wp_region_lit
  refine Kd.event_run rfl rfl ?_
  refine Kd.event_run (v := .float .f32 (fl_add (fl_mul (fl_quo (fl_sub y a) b) (fl_of (h - 1))) 1056964608)) (w1 := wq) rfl (by go_simp) ?_
  refine Kd.event_run (v := .int .i64 n) (w1 := wq) rfl (by go_simp) ?_
  refine Kd.event_run rfl rfl ?_
  apply wpList_nil
  go_simp
  go_wp2_with fail
  go_ret
  exact ⟨rfl, HBQ.out⟩
end Go.Proofs.Ytfhgomcfpmbhnaa.Y
end
