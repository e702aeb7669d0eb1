-- Part 6 of the texts of the claim CL (wrote by programs: words of the kit's print.sh, printed functions; and my own texts; joined by wip/tools/pack.py).
import Derived.Test.YtfhgomcfpmbhnaaCL5
import Derived.LoopTactic

section
namespace Go.Proofs.Ytfhgomcfpmbhnaa.Y
open Go.RowKit Go.Proofs.Ytfhgomcfpmbhnaa.PS Go.Proofs.YtfhgomcfpmbhnaaW.PrintWords Go.Proofs.YtfhgomcfpmbhnaaW.PrintMore Go.Proofs.YtfhgomcfpmbhnaaW.Fits
attribute [local go_sem] frun_store frun_bits frun_from
set_option linter.unusedVariables false
theorem info58 : (Try.prog.info? 58).map (fun i => (i.zero, i.size, i.bytes)) = some (some (.agg #[.int .i64 0, .float .f32 0]), 2, 16) := by kernel_rfl
theorem make58 (w : World) (n : Int) (h0 : 0 ≤ n) (h1 : n ≤ 8796093022208) : (Instr.makeSlice 31 (.int .i64 0) (.int .i64 n)).run Try.prog w = .ok (.slice (some ⟨w.heap.size, 0, none⟩) 0 n.toNat) (w.alloc (.cells (madeCells #[.int .i64 0, .float .f32 0] (n.toNat * 2)) 58)) := by
  obtain ⟨i0, hi0, hz0, hz1, hz2⟩ := info_parts info58
  have hr := run_make (P := Try.prog) w 31 58 i0 _ Try.underlying31 hi0 hz0 .i64 .i64 0 n (Int.le_refl _) h0 (by rw [hz2]; omega) (by omega)
  rw [hz1] at hr
  exact hr
theorem build58a (w : World) : (Instr.build 58 #[(0, .int .i64 (-7701))]).run Try.prog w = .ok (.agg #[.int .i64 (-7701), .float .f32 0]) w := by kernel_rfl
theorem build58b (w : World) : (Instr.build 58 #[(0, .int .i64 (-7702))]).run Try.prog w = .ok (.agg #[.int .i64 (-7702), .float .f32 0]) w := by kernel_rfl
attribute [local go_sem] make58 build58a build58b
end Go.Proofs.Ytfhgomcfpmbhnaa.Y
end

section
namespace Go.Proofs.Ytfhgomcfpmbhnaa.PS
open Go.RowKit Go.Proofs.YtfhgomcfpmbhnaaW.PrintWords Go.Proofs.YtfhgomcfpmbhnaaW.PrintMore
attribute [local go_sem] frun_add frun_sub frun_mul frun_quo frun_neg frun_of frun_same frun_store frun_bits frun_from
set_option linter.unusedVariables false
def tb (k : Nat) : Nat := if k = 0 then 1317011456 else if k = 1 then 1568669696 else if k = 2 then 2071986176 else 2139095040
theorem tb_ok (k : Nat) (h : k < 3) : fk_mul (tb k) (tb k) = true ∧ fl_mul (tb k) (tb k) = tb (k + 1) := by
  obtain rfl | rfl | rfl : k = 0 ∨ k = 1 ∨ k = 2 := by omega
  all_goals exact ⟨by kernel_rfl, by kernel_rfl⟩
set_option maxRecDepth 100000 in
set_option maxHeartbeats 4000000 in
theorem infinite_any (w : World) : Calls Try.prog 70 #[] w fun e w' => e = .returned (.float .f32 2139095040) ∧ Drawn0 w w' := by
  go_enter Try.func70, Try.ntmps70
  go_wp2
  go_loop [1, 2] (fun x i => ∃ k : Nat, k ≤ 3 ∧ i = .int .i64 k ∧ x = .float .f32 (tb k)) (fun _ i => 3 - (intOf i).toNat)
  case atStart => exact ⟨0, by omega, rfl, rfl⟩
  case round =>
    obtain ⟨k, hk, rfl, rfl⟩ := hrel
    by_cases hlt : k < 3
    · obtain ⟨hm, hv⟩ := tb_ok k hlt
      have HV := Aside0.mk hv
      clear hv
      go_wp2
      go_round
      case rel => exact ⟨k + 1, by omega, by go_num, by rw [HV.out]⟩
      case measure => simp [intOf]; omega
    · obtain rfl : k = 3 := by omega
      go_wp2
      go_ret
      exact ⟨rfl, Drawn0.refl _⟩
def fFin (x : Nat) : Bool := (FloatKind.f32.format.order x (fl_neg 2139095040) == some Ordering.gt) && (FloatKind.f32.format.order x 2139095040 == some Ordering.lt)
def curve_finite.f (a0 : Nat) : Option Bool := some (fFin a0)
set_option maxRecDepth 100000 in
set_option maxHeartbeats 4000000 in
theorem curve_finite.calls (a0 : Nat) (r : Bool) (w : World) (h : curve_finite.f a0 = some r) : Calls Try.prog 50 #[.float .f32 a0] w fun e w' => e = .returned (.bool r) ∧ Drawn0 w w' := by
  unfold curve_finite.f at h
  cases h
  unfold fFin
  cases h1 : (FloatKind.f32.format.order a0 (fl_neg 2139095040) == some Ordering.gt) with
  | true =>
    go_enter Try.func50, Try.ntmps50
    go_wp2_with (first | (go_at_call 70; refine (infinite_any _).mono ?_; rintro e w1 ⟨rfl, ⟨nd, rfl⟩⟩))
    go_ret
    exact ⟨by simp, by repeat (first | exact Drawn0.refl _ | apply Drawn0.step)⟩
  | false =>
    go_enter Try.func50, Try.ntmps50
    go_wp2_with (first | (go_at_call 70; refine (infinite_any _).mono ?_; rintro e w1 ⟨rfl, ⟨nd, rfl⟩⟩))
    go_ret
    exact ⟨by simp, by repeat (first | exact Drawn0.refl _ | apply Drawn0.step)⟩
end Go.Proofs.Ytfhgomcfpmbhnaa.PS
end

section
namespace Go.Proofs.Ytfhgomcfpmbhnaa.PS
open Go.RowKit Go.Proofs.YtfhgomcfpmbhnaaW.PrintWords Go.Proofs.YtfhgomcfpmbhnaaW.PrintLast Go.Proofs.YtfhgomcfpmbhnaaW.PrintMore
attribute [local go_sem] frun_add frun_sub frun_mul frun_quo frun_neg frun_of frun_same frun_store frun_bits frun_from
attribute [local go_sem] max2_int min2_int max_two min_two max_three min_three max_four min_four
set_option linter.unusedVariables false
set_option linter.unusedSimpArgs false
def curve_ordered.l0 : Nat → List (S58) → List (S58) → Int → Int → Option (Bool)
 | 0, _, _, _, _ => none
 | k + 1, x0, x5, x6, x7 => if x7 < x6 then (if 0 ≤ x7 then (if x7 < (x5.length : Int) then (if ((rd_T58 x5 x7).f0) < (-9999999999999) then (some false) else (if ((rd_T58 x5 x7).f0) > 9999999999999 then (some false) else ((curve_finite.f ((rd_T58 x5 x7).f1)).bind fun t268 => (if t268 = true then (if x7 > 0 then (if 0 ≤ (wrap64 (x7 - 1)) then (if (wrap64 (x7 - 1)) < (x0.length : Int) then (if ((rd_T58 x5 x7).f0) ≤ ((rd_T58 x0 (wrap64 (x7 - 1))).f0) then (some false) else (curve_ordered.l0 k x0 x5 x6 (wrap64 (x7 + 1)))) else (none)) else (none)) else (curve_ordered.l0 k x0 x5 x6 (wrap64 (x7 + 1)))) else (some false))))) else (none)) else (none)) else (some true)
def curve_ordered.f (k : Nat) (l0 : List (S58)) : Option (Bool) := curve_ordered.l0 k l0 l0 (l0.length : Int) 0
theorem curve_ordered.mono_l : ∀ k, (∀ y0 y1 y2 y3, LeO (curve_ordered.l0 k y0 y1 y2 y3) (curve_ordered.l0 (k + 1) y0 y1 y2 y3))
 | 0 => fun _ _ _ _ r h => by simp [curve_ordered.l0] at h
 | k + 1 => by
  have ih0 := curve_ordered.mono_l k
  ·intro y0 y1 y2 y3
   unfold curve_ordered.l0
   repeat' first
   | (with_reducible exact ih0 _ _ _ _)
   | (with_reducible exact LeO.refl _)
   | (with_reducible exact LeO.none _)
   | (with_reducible refine LeO.ite ?_ ?_)
   | (with_reducible refine LeO.bind ?_ (fun _ => ?_))
   | exact ih0 _ _ _ _
   | exact LeO.none _
   | refine LeO.ite ?_ ?_
   | refine LeO.bind ?_ (fun _ => ?_)
theorem curve_ordered.mono : ∀ a0 k, LeO (curve_ordered.f k a0) (curve_ordered.f (k + 1) a0) := by
 intro a0 k
 have ih0 := curve_ordered.mono_l k
 unfold curve_ordered.f
 repeat' first
   | (with_reducible exact ih0 _ _ _ _)
   | (with_reducible exact LeO.refl _)
   | (with_reducible exact LeO.none _)
   | (with_reducible refine LeO.ite ?_ ?_)
   | (with_reducible refine LeO.bind ?_ (fun _ => ?_))
   | exact ih0 _ _ _ _
   | exact LeO.none _
   | refine LeO.ite ?_ ?_
   | refine LeO.bind ?_ (fun _ => ?_)
set_option maxHeartbeats 8000000 in
set_option maxRecDepth 100000 in
theorem curve_ordered.calls (k : Nat) (A0 : Option Addr) (c0 : Nat) (l0 : List (S58)) (r : Bool) (w : World) (hr0 : Kd.C k58 w A0 l0.length l0) (hc0 : l0.length ≤ c0) (h : curve_ordered.f k l0 = some r) :
  Calls Try.prog 48 #[.slice A0 l0.length c0] w fun e w' => e = .returned (.bool r) ∧ Below w.heap.size w w' := by
 have hu58 := Try.underlying58
 have HR0 := Aside0.mk hr0
 have HC0 := Aside0.mk hc0
 clear hr0 hc0
 have HB := Aside0.mk (Below.refl w.heap.size w)
 have H : (curve_ordered.l0 k l0 l0 (l0.length : Int) 0) = some r := h
 clear h
 have H' := Aside0.mk H
 clear H
 go_enter Try.func48, Try.ntmps48
 go_wp2
 repeat (go_quiet (fail); try go_wp2)
 go_loopg [7] k (fun kq v7 w' => ∃ (x7_1 : Int), v7 = .int .i64 x7_1 ∧ Aside0 (curve_ordered.l0 kq l0 l0 (l0.length : Int) x7_1 = some r) ∧ Aside0 (kq ≤ k) ∧ Aside0 (Below w.heap.size w w'))
 case atStart => exact ⟨(0), (by first | rfl | (simp; done) | (simp [*]; done)), H', ⟨Nat.le_refl _⟩, ⟨blx⟩⟩
 case round =>
  clear H'
  obtain ⟨x7_1, rfl, HA, HK1, HB⟩ := hrel
  cases gk with
  | zero => exact absurd HA.out (by simp [curve_ordered.l0])
  | succ k1 =>
   have H := HA.out
   clear HA
   simp only [curve_ordered.l0] at H
   by_cases c2 : x7_1 < (l0.length : Int)
   ·rw [if_pos c2] at H
    have c2b0 : decide (x7_1 < (l0.length : Int)) = true := decide_eq_true c2
    clear c2
    by_cases c3 : 0 ≤ x7_1
    ·rw [if_pos c3] at H
     have c3b0 : decide (0 ≤ x7_1) = true := decide_eq_true c3
     clear c3
     by_cases c4 : x7_1 < (l0.length : Int)
     ·rw [if_pos c4] at H
      have c4b0 : decide (x7_1 < (l0.length : Int)) = true := decide_eq_true c4
      clear c4
      by_cases c5 : ((rd_T58 l0 x7_1).f0) < (-9999999999999)
      ·rw [if_pos c5] at H
       have c5b0 : decide (((rd_T58 l0 x7_1).f0) < (-9999999999999)) = true := decide_eq_true c5
       clear c5
       obtain rfl := Option.some.inj H
       have p266 : 0 ≤ (x7_1 : Int) := odx
       have q266 : x7_1 < (l0.length : Int) := odx
       obtain ⟨ad266, e266, hx266_0, hx266_1⟩ := at_T58 HR0.out x7_1 p266 q266
       cases e266
       replace hx266_0 := (HB.out.cell (World.block_lt_of_cell? w _ hx266_0)).trans hx266_0
       replace hx266_1 := (HB.out.cell (World.block_lt_of_cell? w _ hx266_1)).trans hx266_1
       replace p266 := eq_true p266
       replace q266 := eq_true q266
       go_wp2_with (first | ((with_reducible refine gate_dst (N := 4) rfl ?_); refine box_event ?hg (N := 4) ?hd (cs := #[.int .i64 0, .float .f32 (0 : Nat)]) (t := 58) ?hr ?_; (case hd => rfl); (case hg => rfl); (case hr => first | (go_simp; done) | (go_simp; rfl)); intro gb267 hg w6 hbox hb; have n0_ := Aside0.mk (below_step blx hb); have n1_ := Aside0.mk (hbox); have n2_ := Aside0.mk ((by rw [hg]; exact (below_size blx) : w.heap.size ≤ gb267)); have n3_ := Aside0.mk ((by rw [hg]; exact (below_size blx) : w.heap.size ≤ gb267)); clear HB; have HB := n0_; have BK267 := n1_; have GW267 := n2_; have GE267 := n3_; clear n0_ n1_ n2_ n3_; clear hb hbox hg; have hcz7_0 : w6.cell? ⟨gb267, 0, none⟩ = some (.int .i64 0) := (blk_cell BK267.out 0).trans rfl; have hcz7_1 : w6.cell? ⟨gb267, 1, none⟩ = some (.float .f32 (0 : Nat)) := (blk_cell BK267.out 1).trans rfl; have hfz7_0 := blk_frozen BK267.out 0; have hfz7_1 := blk_frozen BK267.out 1))
       repeat (go_quiet (first | ((with_reducible refine gate_dst (N := 4) rfl ?_); refine box_event ?hg (N := 4) ?hd (cs := #[.int .i64 0, .float .f32 (0 : Nat)]) (t := 58) ?hr ?_; (case hd => rfl); (case hg => rfl); (case hr => first | (go_simp; done) | (go_simp; rfl)); intro gb267 hg w6 hbox hb; have n0_ := Aside0.mk (below_step blx hb); have n1_ := Aside0.mk (hbox); have n2_ := Aside0.mk ((by rw [hg]; exact (below_size blx) : w.heap.size ≤ gb267)); have n3_ := Aside0.mk ((by rw [hg]; exact (below_size blx) : w.heap.size ≤ gb267)); clear HB; have HB := n0_; have BK267 := n1_; have GW267 := n2_; have GE267 := n3_; clear n0_ n1_ n2_ n3_; clear hb hbox hg; have hcz7_0 : w6.cell? ⟨gb267, 0, none⟩ = some (.int .i64 0) := (blk_cell BK267.out 0).trans rfl; have hcz7_1 : w6.cell? ⟨gb267, 1, none⟩ = some (.float .f32 (0 : Nat)) := (blk_cell BK267.out 1).trans rfl; have hfz7_0 := blk_frozen BK267.out 0; have hfz7_1 := blk_frozen BK267.out 1)); try go_wp2_with (first | ((with_reducible refine gate_dst (N := 4) rfl ?_); refine box_event ?hg (N := 4) ?hd (cs := #[.int .i64 0, .float .f32 (0 : Nat)]) (t := 58) ?hr ?_; (case hd => rfl); (case hg => rfl); (case hr => first | (go_simp; done) | (go_simp; rfl)); intro gb267 hg w6 hbox hb; have n0_ := Aside0.mk (below_step blx hb); have n1_ := Aside0.mk (hbox); have n2_ := Aside0.mk ((by rw [hg]; exact (below_size blx) : w.heap.size ≤ gb267)); have n3_ := Aside0.mk ((by rw [hg]; exact (below_size blx) : w.heap.size ≤ gb267)); clear HB; have HB := n0_; have BK267 := n1_; have GW267 := n2_; have GE267 := n3_; clear n0_ n1_ n2_ n3_; clear hb hbox hg; have hcz7_0 : w6.cell? ⟨gb267, 0, none⟩ = some (.int .i64 0) := (blk_cell BK267.out 0).trans rfl; have hcz7_1 : w6.cell? ⟨gb267, 1, none⟩ = some (.float .f32 (0 : Nat)) := (blk_cell BK267.out 1).trans rfl; have hfz7_0 := blk_frozen BK267.out 0; have hfz7_1 := blk_frozen BK267.out 1)))
       go_ret
       exact ⟨by first | rfl | (simp [errW_none, errW_some] <;> rfl) | (simp [*, errW_none, errW_some] <;> rfl), blx⟩
      ·rw [if_neg c5] at H
       have c5b0 : decide (((rd_T58 l0 x7_1).f0) < (-9999999999999)) = false := decide_eq_false c5
       clear c5
       by_cases c8 : ((rd_T58 l0 x7_1).f0) > 9999999999999
       ·rw [if_pos c8] at H
        have c8b0 : decide (9999999999999 < ((rd_T58 l0 x7_1).f0)) = true := decide_eq_true c8
        clear c8
        obtain rfl := Option.some.inj H
        have p266 : 0 ≤ (x7_1 : Int) := odx
        have q266 : x7_1 < (l0.length : Int) := odx
        obtain ⟨ad266, e266, hx266_0, hx266_1⟩ := at_T58 HR0.out x7_1 p266 q266
        cases e266
        replace hx266_0 := (HB.out.cell (World.block_lt_of_cell? w _ hx266_0)).trans hx266_0
        replace hx266_1 := (HB.out.cell (World.block_lt_of_cell? w _ hx266_1)).trans hx266_1
        replace p266 := eq_true p266
        replace q266 := eq_true q266
        go_wp2_with (first | ((with_reducible refine gate_dst (N := 4) rfl ?_); refine box_event ?hg (N := 4) ?hd (cs := #[.int .i64 0, .float .f32 (0 : Nat)]) (t := 58) ?hr ?_; (case hd => rfl); (case hg => rfl); (case hr => first | (go_simp; done) | (go_simp; rfl)); intro gb267 hg w9 hbox hb; have n0_ := Aside0.mk (below_step blx hb); have n1_ := Aside0.mk (hbox); have n2_ := Aside0.mk ((by rw [hg]; exact (below_size blx) : w.heap.size ≤ gb267)); have n3_ := Aside0.mk ((by rw [hg]; exact (below_size blx) : w.heap.size ≤ gb267)); clear HB; have HB := n0_; have BK267 := n1_; have GW267 := n2_; have GE267 := n3_; clear n0_ n1_ n2_ n3_; clear hb hbox hg; have hcz10_0 : w9.cell? ⟨gb267, 0, none⟩ = some (.int .i64 0) := (blk_cell BK267.out 0).trans rfl; have hcz10_1 : w9.cell? ⟨gb267, 1, none⟩ = some (.float .f32 (0 : Nat)) := (blk_cell BK267.out 1).trans rfl; have hfz10_0 := blk_frozen BK267.out 0; have hfz10_1 := blk_frozen BK267.out 1))
        repeat (go_quiet (first | ((with_reducible refine gate_dst (N := 4) rfl ?_); refine box_event ?hg (N := 4) ?hd (cs := #[.int .i64 0, .float .f32 (0 : Nat)]) (t := 58) ?hr ?_; (case hd => rfl); (case hg => rfl); (case hr => first | (go_simp; done) | (go_simp; rfl)); intro gb267 hg w9 hbox hb; have n0_ := Aside0.mk (below_step blx hb); have n1_ := Aside0.mk (hbox); have n2_ := Aside0.mk ((by rw [hg]; exact (below_size blx) : w.heap.size ≤ gb267)); have n3_ := Aside0.mk ((by rw [hg]; exact (below_size blx) : w.heap.size ≤ gb267)); clear HB; have HB := n0_; have BK267 := n1_; have GW267 := n2_; have GE267 := n3_; clear n0_ n1_ n2_ n3_; clear hb hbox hg; have hcz10_0 : w9.cell? ⟨gb267, 0, none⟩ = some (.int .i64 0) := (blk_cell BK267.out 0).trans rfl; have hcz10_1 : w9.cell? ⟨gb267, 1, none⟩ = some (.float .f32 (0 : Nat)) := (blk_cell BK267.out 1).trans rfl; have hfz10_0 := blk_frozen BK267.out 0; have hfz10_1 := blk_frozen BK267.out 1)); try go_wp2_with (first | ((with_reducible refine gate_dst (N := 4) rfl ?_); refine box_event ?hg (N := 4) ?hd (cs := #[.int .i64 0, .float .f32 (0 : Nat)]) (t := 58) ?hr ?_; (case hd => rfl); (case hg => rfl); (case hr => first | (go_simp; done) | (go_simp; rfl)); intro gb267 hg w9 hbox hb; have n0_ := Aside0.mk (below_step blx hb); have n1_ := Aside0.mk (hbox); have n2_ := Aside0.mk ((by rw [hg]; exact (below_size blx) : w.heap.size ≤ gb267)); have n3_ := Aside0.mk ((by rw [hg]; exact (below_size blx) : w.heap.size ≤ gb267)); clear HB; have HB := n0_; have BK267 := n1_; have GW267 := n2_; have GE267 := n3_; clear n0_ n1_ n2_ n3_; clear hb hbox hg; have hcz10_0 : w9.cell? ⟨gb267, 0, none⟩ = some (.int .i64 0) := (blk_cell BK267.out 0).trans rfl; have hcz10_1 : w9.cell? ⟨gb267, 1, none⟩ = some (.float .f32 (0 : Nat)) := (blk_cell BK267.out 1).trans rfl; have hfz10_0 := blk_frozen BK267.out 0; have hfz10_1 := blk_frozen BK267.out 1)))
        go_ret
        exact ⟨by first | rfl | (simp [errW_none, errW_some] <;> rfl) | (simp [*, errW_none, errW_some] <;> rfl), blx⟩
       ·rw [if_neg c8] at H
        have c8b0 : decide (9999999999999 < ((rd_T58 l0 x7_1).f0)) = false := decide_eq_false c8
        clear c8
        replace H := Option.bind_eq_some_iff.mp H
        obtain ⟨t268, A110, H⟩ := H
        replace H : (if t268 = true then (if x7_1 > 0 then (if 0 ≤ (wrap64 (x7_1 - 1)) then (if (wrap64 (x7_1 - 1)) < (l0.length : Int) then (if ((rd_T58 l0 x7_1).f0) ≤ ((rd_T58 l0 (wrap64 (x7_1 - 1))).f0) then (some false) else (curve_ordered.l0 k1 l0 l0 (l0.length : Int) (wrap64 (x7_1 + 1)))) else (none)) else (none)) else (curve_ordered.l0 k1 l0 l0 (l0.length : Int) (wrap64 (x7_1 + 1)))) else (some false)) = some r := H
        have A11 := Aside0.mk A110
        clear A110
        by_cases c12 : t268 = true
        ·subst c12
         have H1 : (if x7_1 > 0 then (if 0 ≤ (wrap64 (x7_1 - 1)) then (if (wrap64 (x7_1 - 1)) < (l0.length : Int) then (if ((rd_T58 l0 x7_1).f0) ≤ ((rd_T58 l0 (wrap64 (x7_1 - 1))).f0) then (some false) else (curve_ordered.l0 k1 l0 l0 (l0.length : Int) (wrap64 (x7_1 + 1)))) else (none)) else (none)) else (curve_ordered.l0 k1 l0 l0 (l0.length : Int) (wrap64 (x7_1 + 1)))) = some r := by rw [if_pos rfl] at H; exact H
         clear H
         have H := H1
         clear H1
         by_cases c13 : x7_1 > 0
         ·rw [if_pos c13] at H
          have c13b0 : decide (0 < x7_1) = true := decide_eq_true c13
          clear c13
          obtain ⟨ji14, hji14⟩ : ∃ j_ : Int, (wrap64 (x7_1 - 1)) = j_ := ⟨_, rfl⟩
          replace H : (if 0 ≤ (ji14) then (if (ji14) < (l0.length : Int) then (if ((rd_T58 l0 x7_1).f0) ≤ ((rd_T58 l0 (ji14)).f0) then (some false) else (curve_ordered.l0 k1 l0 l0 (l0.length : Int) (wrap64 (x7_1 + 1)))) else (none)) else (none)) = some r := by first | (rw [hji14] at H; exact H) | (simp only [hji14] at H ⊢; exact H)
          (try rw [hji14] at A11)
          have hji14w : (IntKind.i64.wrap (x7_1 - 1)) = ji14 := (i64_w _).trans hji14
          by_cases c15 : 0 ≤ (ji14)
          ·rw [if_pos c15] at H
           have c15b0 : decide (0 ≤ (ji14)) = true := decide_eq_true c15
           clear c15
           by_cases c16 : (ji14) < (l0.length : Int)
           ·rw [if_pos c16] at H
            have c16b0 : decide ((ji14) < (l0.length : Int)) = true := decide_eq_true c16
            clear c16
            by_cases c17 : ((rd_T58 l0 x7_1).f0) ≤ ((rd_T58 l0 (ji14)).f0)
            ·rw [if_pos c17] at H
             have c17b0 : decide (((rd_T58 l0 x7_1).f0) ≤ ((rd_T58 l0 (ji14)).f0)) = true := decide_eq_true c17
             clear c17
             obtain rfl := Option.some.inj H
             have p266 : 0 ≤ (x7_1 : Int) := odx
             have q266 : x7_1 < (l0.length : Int) := odx
             obtain ⟨ad266, e266, hx266_0, hx266_1⟩ := at_T58 HR0.out x7_1 p266 q266
             cases e266
             replace hx266_0 := (HB.out.cell (World.block_lt_of_cell? w _ hx266_0)).trans hx266_0
             replace hx266_1 := (HB.out.cell (World.block_lt_of_cell? w _ hx266_1)).trans hx266_1
             replace p266 := eq_true p266
             replace q266 := eq_true q266
             go_wp2_with (first | ((with_reducible refine gate_dst (N := 4) rfl ?_); refine box_event ?hg (N := 4) ?hd (cs := #[.int .i64 0, .float .f32 (0 : Nat)]) (t := 58) ?hr ?_; (case hd => rfl); (case hg => rfl); (case hr => first | (go_simp; done) | (go_simp; rfl)); intro gb267 hg w18 hbox hb; have n0_ := Aside0.mk (below_step blx hb); have n1_ := Aside0.mk (hbox); have n2_ := Aside0.mk ((by rw [hg]; exact (below_size blx) : w.heap.size ≤ gb267)); have n3_ := Aside0.mk ((by rw [hg]; exact (below_size blx) : w.heap.size ≤ gb267)); clear HB; have HB := n0_; have BK267 := n1_; have GW267 := n2_; have GE267 := n3_; clear n0_ n1_ n2_ n3_; clear hb hbox hg; have hcz19_0 : w18.cell? ⟨gb267, 0, none⟩ = some (.int .i64 0) := (blk_cell BK267.out 0).trans rfl; have hcz19_1 : w18.cell? ⟨gb267, 1, none⟩ = some (.float .f32 (0 : Nat)) := (blk_cell BK267.out 1).trans rfl; have hfz19_0 := blk_frozen BK267.out 0; have hfz19_1 := blk_frozen BK267.out 1) | (go_at_call 50; (with_reducible refine (curve_finite.calls ((rd_T58 l0 x7_1).f1) true _ A11.out).mono ?_); rintro e w' ⟨rfl, ⟨nd, rfl⟩⟩; (try first | exact ⟨rfl, _, World.drewN_drewN _ _ _⟩ | exact ⟨rfl, _, Eq.trans (World.drewN_drewN _ _ _) (congrArg (World.drewN _) (Nat.add_assoc _ _ _))⟩); have p269 : 0 ≤ ((ji14) : Int) := odx; have q269 : (ji14) < (l0.length : Int) := odx; obtain ⟨ad269, e269, hx269_0, hx269_1⟩ := at_T58 HR0.out (ji14) p269 q269; obtain rfl : ad266 = ad269 := (by injection e269); have hn269_0 : ad266.block ≠ gb267 := Nat.ne_of_lt (Nat.lt_of_lt_of_le (by have := World.block_lt_of_cell? _ _ hx269_0; first | rwa [add_block] at this | exact this) GW267.out); have hn269_1 : ad266.block ≠ gb267 := Nat.ne_of_lt (Nat.lt_of_lt_of_le (by have := World.block_lt_of_cell? _ _ hx269_0; first | rwa [add_block] at this | exact this) GW267.out); replace hx269_0 := (HB.out.cell (World.block_lt_of_cell? w _ hx269_0)).trans hx269_0; replace hx269_1 := (HB.out.cell (World.block_lt_of_cell? w _ hx269_1)).trans hx269_1; replace hx269_0 := (cell_far (p := ⟨gb267, 0, none⟩) (by first | (rw [add_block]; exact hn269_0) | (show (Addr.add _ _).block ≠ _; rw [add_block]; exact hn269_0) | exact hn269_0) (.int .i64 ((rd_T58 l0 x7_1).f0))).trans hx269_0; replace hx269_1 := (cell_far (p := ⟨gb267, 0, none⟩) (by first | (rw [add_block]; exact hn269_0) | (show (Addr.add _ _).block ≠ _; rw [add_block]; exact hn269_0) | exact hn269_0) (.int .i64 ((rd_T58 l0 x7_1).f0))).trans hx269_1; replace hx269_0 := (cell_far (p := ⟨gb267, 1, none⟩) (by first | (rw [add_block]; exact hn269_1) | (show (Addr.add _ _).block ≠ _; rw [add_block]; exact hn269_1) | exact hn269_1) (.float .f32 ((rd_T58 l0 x7_1).f1))).trans hx269_0; replace hx269_1 := (cell_far (p := ⟨gb267, 1, none⟩) (by first | (rw [add_block]; exact hn269_1) | (show (Addr.add _ _).block ≠ _; rw [add_block]; exact hn269_1) | exact hn269_1) (.float .f32 ((rd_T58 l0 x7_1).f1))).trans hx269_1; (try have hy269_0 := fun (n_ : Nat) => (show ((((w18.drewN n_).setCell ⟨gb267, 0, none⟩ (.int .i64 ((rd_T58 l0 x7_1).f0))).setCell ⟨gb267, 1, none⟩ (.float .f32 ((rd_T58 l0 x7_1).f1)))).cell? _ = some _ from hx269_0)); (try have hy269_1 := fun (n_ : Nat) => (show ((((w18.drewN n_).setCell ⟨gb267, 0, none⟩ (.int .i64 ((rd_T58 l0 x7_1).f0))).setCell ⟨gb267, 1, none⟩ (.float .f32 ((rd_T58 l0 x7_1).f1)))).cell? _ = some _ from hx269_1)); clear hn269_0; clear hn269_1; replace p269 := eq_true p269; replace q269 := eq_true q269))
             repeat (go_quiet (first | ((with_reducible refine gate_dst (N := 4) rfl ?_); refine box_event ?hg (N := 4) ?hd (cs := #[.int .i64 0, .float .f32 (0 : Nat)]) (t := 58) ?hr ?_; (case hd => rfl); (case hg => rfl); (case hr => first | (go_simp; done) | (go_simp; rfl)); intro gb267 hg w18 hbox hb; have n0_ := Aside0.mk (below_step blx hb); have n1_ := Aside0.mk (hbox); have n2_ := Aside0.mk ((by rw [hg]; exact (below_size blx) : w.heap.size ≤ gb267)); have n3_ := Aside0.mk ((by rw [hg]; exact (below_size blx) : w.heap.size ≤ gb267)); clear HB; have HB := n0_; have BK267 := n1_; have GW267 := n2_; have GE267 := n3_; clear n0_ n1_ n2_ n3_; clear hb hbox hg; have hcz19_0 : w18.cell? ⟨gb267, 0, none⟩ = some (.int .i64 0) := (blk_cell BK267.out 0).trans rfl; have hcz19_1 : w18.cell? ⟨gb267, 1, none⟩ = some (.float .f32 (0 : Nat)) := (blk_cell BK267.out 1).trans rfl; have hfz19_0 := blk_frozen BK267.out 0; have hfz19_1 := blk_frozen BK267.out 1) | (go_at_call 50; (with_reducible refine (curve_finite.calls ((rd_T58 l0 x7_1).f1) true _ A11.out).mono ?_); rintro e w' ⟨rfl, ⟨nd, rfl⟩⟩; (try first | exact ⟨rfl, _, World.drewN_drewN _ _ _⟩ | exact ⟨rfl, _, Eq.trans (World.drewN_drewN _ _ _) (congrArg (World.drewN _) (Nat.add_assoc _ _ _))⟩); have p269 : 0 ≤ ((ji14) : Int) := odx; have q269 : (ji14) < (l0.length : Int) := odx; obtain ⟨ad269, e269, hx269_0, hx269_1⟩ := at_T58 HR0.out (ji14) p269 q269; obtain rfl : ad266 = ad269 := (by injection e269); have hn269_0 : ad266.block ≠ gb267 := Nat.ne_of_lt (Nat.lt_of_lt_of_le (by have := World.block_lt_of_cell? _ _ hx269_0; first | rwa [add_block] at this | exact this) GW267.out); have hn269_1 : ad266.block ≠ gb267 := Nat.ne_of_lt (Nat.lt_of_lt_of_le (by have := World.block_lt_of_cell? _ _ hx269_0; first | rwa [add_block] at this | exact this) GW267.out); replace hx269_0 := (HB.out.cell (World.block_lt_of_cell? w _ hx269_0)).trans hx269_0; replace hx269_1 := (HB.out.cell (World.block_lt_of_cell? w _ hx269_1)).trans hx269_1; replace hx269_0 := (cell_far (p := ⟨gb267, 0, none⟩) (by first | (rw [add_block]; exact hn269_0) | (show (Addr.add _ _).block ≠ _; rw [add_block]; exact hn269_0) | exact hn269_0) (.int .i64 ((rd_T58 l0 x7_1).f0))).trans hx269_0; replace hx269_1 := (cell_far (p := ⟨gb267, 0, none⟩) (by first | (rw [add_block]; exact hn269_0) | (show (Addr.add _ _).block ≠ _; rw [add_block]; exact hn269_0) | exact hn269_0) (.int .i64 ((rd_T58 l0 x7_1).f0))).trans hx269_1; replace hx269_0 := (cell_far (p := ⟨gb267, 1, none⟩) (by first | (rw [add_block]; exact hn269_1) | (show (Addr.add _ _).block ≠ _; rw [add_block]; exact hn269_1) | exact hn269_1) (.float .f32 ((rd_T58 l0 x7_1).f1))).trans hx269_0; replace hx269_1 := (cell_far (p := ⟨gb267, 1, none⟩) (by first | (rw [add_block]; exact hn269_1) | (show (Addr.add _ _).block ≠ _; rw [add_block]; exact hn269_1) | exact hn269_1) (.float .f32 ((rd_T58 l0 x7_1).f1))).trans hx269_1; (try have hy269_0 := fun (n_ : Nat) => (show ((((w18.drewN n_).setCell ⟨gb267, 0, none⟩ (.int .i64 ((rd_T58 l0 x7_1).f0))).setCell ⟨gb267, 1, none⟩ (.float .f32 ((rd_T58 l0 x7_1).f1)))).cell? _ = some _ from hx269_0)); (try have hy269_1 := fun (n_ : Nat) => (show ((((w18.drewN n_).setCell ⟨gb267, 0, none⟩ (.int .i64 ((rd_T58 l0 x7_1).f0))).setCell ⟨gb267, 1, none⟩ (.float .f32 ((rd_T58 l0 x7_1).f1)))).cell? _ = some _ from hx269_1)); clear hn269_0; clear hn269_1; replace p269 := eq_true p269; replace q269 := eq_true q269)); try go_wp2_with (first | ((with_reducible refine gate_dst (N := 4) rfl ?_); refine box_event ?hg (N := 4) ?hd (cs := #[.int .i64 0, .float .f32 (0 : Nat)]) (t := 58) ?hr ?_; (case hd => rfl); (case hg => rfl); (case hr => first | (go_simp; done) | (go_simp; rfl)); intro gb267 hg w18 hbox hb; have n0_ := Aside0.mk (below_step blx hb); have n1_ := Aside0.mk (hbox); have n2_ := Aside0.mk ((by rw [hg]; exact (below_size blx) : w.heap.size ≤ gb267)); have n3_ := Aside0.mk ((by rw [hg]; exact (below_size blx) : w.heap.size ≤ gb267)); clear HB; have HB := n0_; have BK267 := n1_; have GW267 := n2_; have GE267 := n3_; clear n0_ n1_ n2_ n3_; clear hb hbox hg; have hcz19_0 : w18.cell? ⟨gb267, 0, none⟩ = some (.int .i64 0) := (blk_cell BK267.out 0).trans rfl; have hcz19_1 : w18.cell? ⟨gb267, 1, none⟩ = some (.float .f32 (0 : Nat)) := (blk_cell BK267.out 1).trans rfl; have hfz19_0 := blk_frozen BK267.out 0; have hfz19_1 := blk_frozen BK267.out 1) | (go_at_call 50; (with_reducible refine (curve_finite.calls ((rd_T58 l0 x7_1).f1) true _ A11.out).mono ?_); rintro e w' ⟨rfl, ⟨nd, rfl⟩⟩; (try first | exact ⟨rfl, _, World.drewN_drewN _ _ _⟩ | exact ⟨rfl, _, Eq.trans (World.drewN_drewN _ _ _) (congrArg (World.drewN _) (Nat.add_assoc _ _ _))⟩); have p269 : 0 ≤ ((ji14) : Int) := odx; have q269 : (ji14) < (l0.length : Int) := odx; obtain ⟨ad269, e269, hx269_0, hx269_1⟩ := at_T58 HR0.out (ji14) p269 q269; obtain rfl : ad266 = ad269 := (by injection e269); have hn269_0 : ad266.block ≠ gb267 := Nat.ne_of_lt (Nat.lt_of_lt_of_le (by have := World.block_lt_of_cell? _ _ hx269_0; first | rwa [add_block] at this | exact this) GW267.out); have hn269_1 : ad266.block ≠ gb267 := Nat.ne_of_lt (Nat.lt_of_lt_of_le (by have := World.block_lt_of_cell? _ _ hx269_0; first | rwa [add_block] at this | exact this) GW267.out); replace hx269_0 := (HB.out.cell (World.block_lt_of_cell? w _ hx269_0)).trans hx269_0; replace hx269_1 := (HB.out.cell (World.block_lt_of_cell? w _ hx269_1)).trans hx269_1; replace hx269_0 := (cell_far (p := ⟨gb267, 0, none⟩) (by first | (rw [add_block]; exact hn269_0) | (show (Addr.add _ _).block ≠ _; rw [add_block]; exact hn269_0) | exact hn269_0) (.int .i64 ((rd_T58 l0 x7_1).f0))).trans hx269_0; replace hx269_1 := (cell_far (p := ⟨gb267, 0, none⟩) (by first | (rw [add_block]; exact hn269_0) | (show (Addr.add _ _).block ≠ _; rw [add_block]; exact hn269_0) | exact hn269_0) (.int .i64 ((rd_T58 l0 x7_1).f0))).trans hx269_1; replace hx269_0 := (cell_far (p := ⟨gb267, 1, none⟩) (by first | (rw [add_block]; exact hn269_1) | (show (Addr.add _ _).block ≠ _; rw [add_block]; exact hn269_1) | exact hn269_1) (.float .f32 ((rd_T58 l0 x7_1).f1))).trans hx269_0; replace hx269_1 := (cell_far (p := ⟨gb267, 1, none⟩) (by first | (rw [add_block]; exact hn269_1) | (show (Addr.add _ _).block ≠ _; rw [add_block]; exact hn269_1) | exact hn269_1) (.float .f32 ((rd_T58 l0 x7_1).f1))).trans hx269_1; (try have hy269_0 := fun (n_ : Nat) => (show ((((w18.drewN n_).setCell ⟨gb267, 0, none⟩ (.int .i64 ((rd_T58 l0 x7_1).f0))).setCell ⟨gb267, 1, none⟩ (.float .f32 ((rd_T58 l0 x7_1).f1)))).cell? _ = some _ from hx269_0)); (try have hy269_1 := fun (n_ : Nat) => (show ((((w18.drewN n_).setCell ⟨gb267, 0, none⟩ (.int .i64 ((rd_T58 l0 x7_1).f0))).setCell ⟨gb267, 1, none⟩ (.float .f32 ((rd_T58 l0 x7_1).f1)))).cell? _ = some _ from hx269_1)); clear hn269_0; clear hn269_1; replace p269 := eq_true p269; replace q269 := eq_true q269)))
             go_ret
             exact ⟨by first | rfl | (simp [errW_none, errW_some] <;> rfl) | (simp only [← hji14]; first | rfl | (simp [errW_none, errW_some] <;> rfl)) | (simp [*, errW_none, errW_some] <;> rfl), blx⟩
            ·rw [if_neg c17] at H
             have c17b0 : decide (((rd_T58 l0 x7_1).f0) ≤ ((rd_T58 l0 (ji14)).f0)) = false := decide_eq_false c17
             clear c17
             have H' := Aside0.mk H
             clear H
             have p266 : 0 ≤ (x7_1 : Int) := odx
             have q266 : x7_1 < (l0.length : Int) := odx
             obtain ⟨ad266, e266, hx266_0, hx266_1⟩ := at_T58 HR0.out x7_1 p266 q266
             cases e266
             replace hx266_0 := (HB.out.cell (World.block_lt_of_cell? w _ hx266_0)).trans hx266_0
             replace hx266_1 := (HB.out.cell (World.block_lt_of_cell? w _ hx266_1)).trans hx266_1
             replace p266 := eq_true p266
             replace q266 := eq_true q266
             go_wp2_with (first | ((with_reducible refine gate_dst (N := 4) rfl ?_); refine box_event ?hg (N := 4) ?hd (cs := #[.int .i64 0, .float .f32 (0 : Nat)]) (t := 58) ?hr ?_; (case hd => rfl); (case hg => rfl); (case hr => first | (go_simp; done) | (go_simp; rfl)); intro gb267 hg w20 hbox hb; have n0_ := Aside0.mk (below_step blx hb); have n1_ := Aside0.mk (hbox); have n2_ := Aside0.mk ((by rw [hg]; exact (below_size blx) : w.heap.size ≤ gb267)); have n3_ := Aside0.mk ((by rw [hg]; exact (below_size blx) : w.heap.size ≤ gb267)); clear HB; have HB := n0_; have BK267 := n1_; have GW267 := n2_; have GE267 := n3_; clear n0_ n1_ n2_ n3_; clear hb hbox hg; have hcz21_0 : w20.cell? ⟨gb267, 0, none⟩ = some (.int .i64 0) := (blk_cell BK267.out 0).trans rfl; have hcz21_1 : w20.cell? ⟨gb267, 1, none⟩ = some (.float .f32 (0 : Nat)) := (blk_cell BK267.out 1).trans rfl; have hfz21_0 := blk_frozen BK267.out 0; have hfz21_1 := blk_frozen BK267.out 1) | (go_at_call 50; (with_reducible refine (curve_finite.calls ((rd_T58 l0 x7_1).f1) true _ A11.out).mono ?_); rintro e w' ⟨rfl, ⟨nd, rfl⟩⟩; (try first | exact ⟨rfl, _, World.drewN_drewN _ _ _⟩ | exact ⟨rfl, _, Eq.trans (World.drewN_drewN _ _ _) (congrArg (World.drewN _) (Nat.add_assoc _ _ _))⟩); have p269 : 0 ≤ ((ji14) : Int) := odx; have q269 : (ji14) < (l0.length : Int) := odx; obtain ⟨ad269, e269, hx269_0, hx269_1⟩ := at_T58 HR0.out (ji14) p269 q269; obtain rfl : ad266 = ad269 := (by injection e269); have hn269_0 : ad266.block ≠ gb267 := Nat.ne_of_lt (Nat.lt_of_lt_of_le (by have := World.block_lt_of_cell? _ _ hx269_0; first | rwa [add_block] at this | exact this) GW267.out); have hn269_1 : ad266.block ≠ gb267 := Nat.ne_of_lt (Nat.lt_of_lt_of_le (by have := World.block_lt_of_cell? _ _ hx269_0; first | rwa [add_block] at this | exact this) GW267.out); replace hx269_0 := (HB.out.cell (World.block_lt_of_cell? w _ hx269_0)).trans hx269_0; replace hx269_1 := (HB.out.cell (World.block_lt_of_cell? w _ hx269_1)).trans hx269_1; replace hx269_0 := (cell_far (p := ⟨gb267, 0, none⟩) (by first | (rw [add_block]; exact hn269_0) | (show (Addr.add _ _).block ≠ _; rw [add_block]; exact hn269_0) | exact hn269_0) (.int .i64 ((rd_T58 l0 x7_1).f0))).trans hx269_0; replace hx269_1 := (cell_far (p := ⟨gb267, 0, none⟩) (by first | (rw [add_block]; exact hn269_0) | (show (Addr.add _ _).block ≠ _; rw [add_block]; exact hn269_0) | exact hn269_0) (.int .i64 ((rd_T58 l0 x7_1).f0))).trans hx269_1; replace hx269_0 := (cell_far (p := ⟨gb267, 1, none⟩) (by first | (rw [add_block]; exact hn269_1) | (show (Addr.add _ _).block ≠ _; rw [add_block]; exact hn269_1) | exact hn269_1) (.float .f32 ((rd_T58 l0 x7_1).f1))).trans hx269_0; replace hx269_1 := (cell_far (p := ⟨gb267, 1, none⟩) (by first | (rw [add_block]; exact hn269_1) | (show (Addr.add _ _).block ≠ _; rw [add_block]; exact hn269_1) | exact hn269_1) (.float .f32 ((rd_T58 l0 x7_1).f1))).trans hx269_1; (try have hy269_0 := fun (n_ : Nat) => (show ((((w20.drewN n_).setCell ⟨gb267, 0, none⟩ (.int .i64 ((rd_T58 l0 x7_1).f0))).setCell ⟨gb267, 1, none⟩ (.float .f32 ((rd_T58 l0 x7_1).f1)))).cell? _ = some _ from hx269_0)); (try have hy269_1 := fun (n_ : Nat) => (show ((((w20.drewN n_).setCell ⟨gb267, 0, none⟩ (.int .i64 ((rd_T58 l0 x7_1).f0))).setCell ⟨gb267, 1, none⟩ (.float .f32 ((rd_T58 l0 x7_1).f1)))).cell? _ = some _ from hx269_1)); clear hn269_0; clear hn269_1; replace p269 := eq_true p269; replace q269 := eq_true q269))
             repeat (go_quiet (first | ((with_reducible refine gate_dst (N := 4) rfl ?_); refine box_event ?hg (N := 4) ?hd (cs := #[.int .i64 0, .float .f32 (0 : Nat)]) (t := 58) ?hr ?_; (case hd => rfl); (case hg => rfl); (case hr => first | (go_simp; done) | (go_simp; rfl)); intro gb267 hg w20 hbox hb; have n0_ := Aside0.mk (below_step blx hb); have n1_ := Aside0.mk (hbox); have n2_ := Aside0.mk ((by rw [hg]; exact (below_size blx) : w.heap.size ≤ gb267)); have n3_ := Aside0.mk ((by rw [hg]; exact (below_size blx) : w.heap.size ≤ gb267)); clear HB; have HB := n0_; have BK267 := n1_; have GW267 := n2_; have GE267 := n3_; clear n0_ n1_ n2_ n3_; clear hb hbox hg; have hcz21_0 : w20.cell? ⟨gb267, 0, none⟩ = some (.int .i64 0) := (blk_cell BK267.out 0).trans rfl; have hcz21_1 : w20.cell? ⟨gb267, 1, none⟩ = some (.float .f32 (0 : Nat)) := (blk_cell BK267.out 1).trans rfl; have hfz21_0 := blk_frozen BK267.out 0; have hfz21_1 := blk_frozen BK267.out 1) | (go_at_call 50; (with_reducible refine (curve_finite.calls ((rd_T58 l0 x7_1).f1) true _ A11.out).mono ?_); rintro e w' ⟨rfl, ⟨nd, rfl⟩⟩; (try first | exact ⟨rfl, _, World.drewN_drewN _ _ _⟩ | exact ⟨rfl, _, Eq.trans (World.drewN_drewN _ _ _) (congrArg (World.drewN _) (Nat.add_assoc _ _ _))⟩); have p269 : 0 ≤ ((ji14) : Int) := odx; have q269 : (ji14) < (l0.length : Int) := odx; obtain ⟨ad269, e269, hx269_0, hx269_1⟩ := at_T58 HR0.out (ji14) p269 q269; obtain rfl : ad266 = ad269 := (by injection e269); have hn269_0 : ad266.block ≠ gb267 := Nat.ne_of_lt (Nat.lt_of_lt_of_le (by have := World.block_lt_of_cell? _ _ hx269_0; first | rwa [add_block] at this | exact this) GW267.out); have hn269_1 : ad266.block ≠ gb267 := Nat.ne_of_lt (Nat.lt_of_lt_of_le (by have := World.block_lt_of_cell? _ _ hx269_0; first | rwa [add_block] at this | exact this) GW267.out); replace hx269_0 := (HB.out.cell (World.block_lt_of_cell? w _ hx269_0)).trans hx269_0; replace hx269_1 := (HB.out.cell (World.block_lt_of_cell? w _ hx269_1)).trans hx269_1; replace hx269_0 := (cell_far (p := ⟨gb267, 0, none⟩) (by first | (rw [add_block]; exact hn269_0) | (show (Addr.add _ _).block ≠ _; rw [add_block]; exact hn269_0) | exact hn269_0) (.int .i64 ((rd_T58 l0 x7_1).f0))).trans hx269_0; replace hx269_1 := (cell_far (p := ⟨gb267, 0, none⟩) (by first | (rw [add_block]; exact hn269_0) | (show (Addr.add _ _).block ≠ _; rw [add_block]; exact hn269_0) | exact hn269_0) (.int .i64 ((rd_T58 l0 x7_1).f0))).trans hx269_1; replace hx269_0 := (cell_far (p := ⟨gb267, 1, none⟩) (by first | (rw [add_block]; exact hn269_1) | (show (Addr.add _ _).block ≠ _; rw [add_block]; exact hn269_1) | exact hn269_1) (.float .f32 ((rd_T58 l0 x7_1).f1))).trans hx269_0; replace hx269_1 := (cell_far (p := ⟨gb267, 1, none⟩) (by first | (rw [add_block]; exact hn269_1) | (show (Addr.add _ _).block ≠ _; rw [add_block]; exact hn269_1) | exact hn269_1) (.float .f32 ((rd_T58 l0 x7_1).f1))).trans hx269_1; (try have hy269_0 := fun (n_ : Nat) => (show ((((w20.drewN n_).setCell ⟨gb267, 0, none⟩ (.int .i64 ((rd_T58 l0 x7_1).f0))).setCell ⟨gb267, 1, none⟩ (.float .f32 ((rd_T58 l0 x7_1).f1)))).cell? _ = some _ from hx269_0)); (try have hy269_1 := fun (n_ : Nat) => (show ((((w20.drewN n_).setCell ⟨gb267, 0, none⟩ (.int .i64 ((rd_T58 l0 x7_1).f0))).setCell ⟨gb267, 1, none⟩ (.float .f32 ((rd_T58 l0 x7_1).f1)))).cell? _ = some _ from hx269_1)); clear hn269_0; clear hn269_1; replace p269 := eq_true p269; replace q269 := eq_true q269)); try go_wp2_with (first | ((with_reducible refine gate_dst (N := 4) rfl ?_); refine box_event ?hg (N := 4) ?hd (cs := #[.int .i64 0, .float .f32 (0 : Nat)]) (t := 58) ?hr ?_; (case hd => rfl); (case hg => rfl); (case hr => first | (go_simp; done) | (go_simp; rfl)); intro gb267 hg w20 hbox hb; have n0_ := Aside0.mk (below_step blx hb); have n1_ := Aside0.mk (hbox); have n2_ := Aside0.mk ((by rw [hg]; exact (below_size blx) : w.heap.size ≤ gb267)); have n3_ := Aside0.mk ((by rw [hg]; exact (below_size blx) : w.heap.size ≤ gb267)); clear HB; have HB := n0_; have BK267 := n1_; have GW267 := n2_; have GE267 := n3_; clear n0_ n1_ n2_ n3_; clear hb hbox hg; have hcz21_0 : w20.cell? ⟨gb267, 0, none⟩ = some (.int .i64 0) := (blk_cell BK267.out 0).trans rfl; have hcz21_1 : w20.cell? ⟨gb267, 1, none⟩ = some (.float .f32 (0 : Nat)) := (blk_cell BK267.out 1).trans rfl; have hfz21_0 := blk_frozen BK267.out 0; have hfz21_1 := blk_frozen BK267.out 1) | (go_at_call 50; (with_reducible refine (curve_finite.calls ((rd_T58 l0 x7_1).f1) true _ A11.out).mono ?_); rintro e w' ⟨rfl, ⟨nd, rfl⟩⟩; (try first | exact ⟨rfl, _, World.drewN_drewN _ _ _⟩ | exact ⟨rfl, _, Eq.trans (World.drewN_drewN _ _ _) (congrArg (World.drewN _) (Nat.add_assoc _ _ _))⟩); have p269 : 0 ≤ ((ji14) : Int) := odx; have q269 : (ji14) < (l0.length : Int) := odx; obtain ⟨ad269, e269, hx269_0, hx269_1⟩ := at_T58 HR0.out (ji14) p269 q269; obtain rfl : ad266 = ad269 := (by injection e269); have hn269_0 : ad266.block ≠ gb267 := Nat.ne_of_lt (Nat.lt_of_lt_of_le (by have := World.block_lt_of_cell? _ _ hx269_0; first | rwa [add_block] at this | exact this) GW267.out); have hn269_1 : ad266.block ≠ gb267 := Nat.ne_of_lt (Nat.lt_of_lt_of_le (by have := World.block_lt_of_cell? _ _ hx269_0; first | rwa [add_block] at this | exact this) GW267.out); replace hx269_0 := (HB.out.cell (World.block_lt_of_cell? w _ hx269_0)).trans hx269_0; replace hx269_1 := (HB.out.cell (World.block_lt_of_cell? w _ hx269_1)).trans hx269_1; replace hx269_0 := (cell_far (p := ⟨gb267, 0, none⟩) (by first | (rw [add_block]; exact hn269_0) | (show (Addr.add _ _).block ≠ _; rw [add_block]; exact hn269_0) | exact hn269_0) (.int .i64 ((rd_T58 l0 x7_1).f0))).trans hx269_0; replace hx269_1 := (cell_far (p := ⟨gb267, 0, none⟩) (by first | (rw [add_block]; exact hn269_0) | (show (Addr.add _ _).block ≠ _; rw [add_block]; exact hn269_0) | exact hn269_0) (.int .i64 ((rd_T58 l0 x7_1).f0))).trans hx269_1; replace hx269_0 := (cell_far (p := ⟨gb267, 1, none⟩) (by first | (rw [add_block]; exact hn269_1) | (show (Addr.add _ _).block ≠ _; rw [add_block]; exact hn269_1) | exact hn269_1) (.float .f32 ((rd_T58 l0 x7_1).f1))).trans hx269_0; replace hx269_1 := (cell_far (p := ⟨gb267, 1, none⟩) (by first | (rw [add_block]; exact hn269_1) | (show (Addr.add _ _).block ≠ _; rw [add_block]; exact hn269_1) | exact hn269_1) (.float .f32 ((rd_T58 l0 x7_1).f1))).trans hx269_1; (try have hy269_0 := fun (n_ : Nat) => (show ((((w20.drewN n_).setCell ⟨gb267, 0, none⟩ (.int .i64 ((rd_T58 l0 x7_1).f0))).setCell ⟨gb267, 1, none⟩ (.float .f32 ((rd_T58 l0 x7_1).f1)))).cell? _ = some _ from hx269_0)); (try have hy269_1 := fun (n_ : Nat) => (show ((((w20.drewN n_).setCell ⟨gb267, 0, none⟩ (.int .i64 ((rd_T58 l0 x7_1).f0))).setCell ⟨gb267, 1, none⟩ (.float .f32 ((rd_T58 l0 x7_1).f1)))).cell? _ = some _ from hx269_1)); clear hn269_0; clear hn269_1; replace p269 := eq_true p269; replace q269 := eq_true q269)))
             go_roundg k1
             case measure => have := HK1.out; omega
             case rel => exact ⟨(wrap64 (x7_1 + 1)), (by first | rfl | (simp; done) | (simp [*]; done)), H', ⟨by have := HK1.out; omega⟩, ⟨blx⟩⟩
           ·rw [if_neg c16] at H
            exact absurd H (by simp)
          ·rw [if_neg c15] at H
           exact absurd H (by simp)
         ·rw [if_neg c13] at H
          have c13b0 : decide (0 < x7_1) = false := decide_eq_false c13
          clear c13
          have H' := Aside0.mk H
          clear H
          have p266 : 0 ≤ (x7_1 : Int) := odx
          have q266 : x7_1 < (l0.length : Int) := odx
          obtain ⟨ad266, e266, hx266_0, hx266_1⟩ := at_T58 HR0.out x7_1 p266 q266
          cases e266
          replace hx266_0 := (HB.out.cell (World.block_lt_of_cell? w _ hx266_0)).trans hx266_0
          replace hx266_1 := (HB.out.cell (World.block_lt_of_cell? w _ hx266_1)).trans hx266_1
          replace p266 := eq_true p266
          replace q266 := eq_true q266
          go_wp2_with (first | ((with_reducible refine gate_dst (N := 4) rfl ?_); refine box_event ?hg (N := 4) ?hd (cs := #[.int .i64 0, .float .f32 (0 : Nat)]) (t := 58) ?hr ?_; (case hd => rfl); (case hg => rfl); (case hr => first | (go_simp; done) | (go_simp; rfl)); intro gb267 hg w22 hbox hb; have n0_ := Aside0.mk (below_step blx hb); have n1_ := Aside0.mk (hbox); have n2_ := Aside0.mk ((by rw [hg]; exact (below_size blx) : w.heap.size ≤ gb267)); have n3_ := Aside0.mk ((by rw [hg]; exact (below_size blx) : w.heap.size ≤ gb267)); clear HB; have HB := n0_; have BK267 := n1_; have GW267 := n2_; have GE267 := n3_; clear n0_ n1_ n2_ n3_; clear hb hbox hg; have hcz23_0 : w22.cell? ⟨gb267, 0, none⟩ = some (.int .i64 0) := (blk_cell BK267.out 0).trans rfl; have hcz23_1 : w22.cell? ⟨gb267, 1, none⟩ = some (.float .f32 (0 : Nat)) := (blk_cell BK267.out 1).trans rfl; have hfz23_0 := blk_frozen BK267.out 0; have hfz23_1 := blk_frozen BK267.out 1) | (go_at_call 50; (with_reducible refine (curve_finite.calls ((rd_T58 l0 x7_1).f1) true _ A11.out).mono ?_); rintro e w' ⟨rfl, ⟨nd, rfl⟩⟩; (try first | exact ⟨rfl, _, World.drewN_drewN _ _ _⟩ | exact ⟨rfl, _, Eq.trans (World.drewN_drewN _ _ _) (congrArg (World.drewN _) (Nat.add_assoc _ _ _))⟩)))
          repeat (go_quiet (first | ((with_reducible refine gate_dst (N := 4) rfl ?_); refine box_event ?hg (N := 4) ?hd (cs := #[.int .i64 0, .float .f32 (0 : Nat)]) (t := 58) ?hr ?_; (case hd => rfl); (case hg => rfl); (case hr => first | (go_simp; done) | (go_simp; rfl)); intro gb267 hg w22 hbox hb; have n0_ := Aside0.mk (below_step blx hb); have n1_ := Aside0.mk (hbox); have n2_ := Aside0.mk ((by rw [hg]; exact (below_size blx) : w.heap.size ≤ gb267)); have n3_ := Aside0.mk ((by rw [hg]; exact (below_size blx) : w.heap.size ≤ gb267)); clear HB; have HB := n0_; have BK267 := n1_; have GW267 := n2_; have GE267 := n3_; clear n0_ n1_ n2_ n3_; clear hb hbox hg; have hcz23_0 : w22.cell? ⟨gb267, 0, none⟩ = some (.int .i64 0) := (blk_cell BK267.out 0).trans rfl; have hcz23_1 : w22.cell? ⟨gb267, 1, none⟩ = some (.float .f32 (0 : Nat)) := (blk_cell BK267.out 1).trans rfl; have hfz23_0 := blk_frozen BK267.out 0; have hfz23_1 := blk_frozen BK267.out 1) | (go_at_call 50; (with_reducible refine (curve_finite.calls ((rd_T58 l0 x7_1).f1) true _ A11.out).mono ?_); rintro e w' ⟨rfl, ⟨nd, rfl⟩⟩; (try first | exact ⟨rfl, _, World.drewN_drewN _ _ _⟩ | exact ⟨rfl, _, Eq.trans (World.drewN_drewN _ _ _) (congrArg (World.drewN _) (Nat.add_assoc _ _ _))⟩))); try go_wp2_with (first | ((with_reducible refine gate_dst (N := 4) rfl ?_); refine box_event ?hg (N := 4) ?hd (cs := #[.int .i64 0, .float .f32 (0 : Nat)]) (t := 58) ?hr ?_; (case hd => rfl); (case hg => rfl); (case hr => first | (go_simp; done) | (go_simp; rfl)); intro gb267 hg w22 hbox hb; have n0_ := Aside0.mk (below_step blx hb); have n1_ := Aside0.mk (hbox); have n2_ := Aside0.mk ((by rw [hg]; exact (below_size blx) : w.heap.size ≤ gb267)); have n3_ := Aside0.mk ((by rw [hg]; exact (below_size blx) : w.heap.size ≤ gb267)); clear HB; have HB := n0_; have BK267 := n1_; have GW267 := n2_; have GE267 := n3_; clear n0_ n1_ n2_ n3_; clear hb hbox hg; have hcz23_0 : w22.cell? ⟨gb267, 0, none⟩ = some (.int .i64 0) := (blk_cell BK267.out 0).trans rfl; have hcz23_1 : w22.cell? ⟨gb267, 1, none⟩ = some (.float .f32 (0 : Nat)) := (blk_cell BK267.out 1).trans rfl; have hfz23_0 := blk_frozen BK267.out 0; have hfz23_1 := blk_frozen BK267.out 1) | (go_at_call 50; (with_reducible refine (curve_finite.calls ((rd_T58 l0 x7_1).f1) true _ A11.out).mono ?_); rintro e w' ⟨rfl, ⟨nd, rfl⟩⟩; (try first | exact ⟨rfl, _, World.drewN_drewN _ _ _⟩ | exact ⟨rfl, _, Eq.trans (World.drewN_drewN _ _ _) (congrArg (World.drewN _) (Nat.add_assoc _ _ _))⟩))))
          go_roundg k1
          case measure => have := HK1.out; omega
          case rel => exact ⟨(wrap64 (x7_1 + 1)), (by first | rfl | (simp; done) | (simp [*]; done)), H', ⟨by have := HK1.out; omega⟩, ⟨blx⟩⟩
        ·replace c12 := Bool.eq_false_iff.mpr c12
         subst c12
         have H1 : (some false) = some r := by rw [if_neg (show ¬ (false = true) by decide)] at H; exact H
         clear H
         have H := H1
         clear H1
         obtain rfl := Option.some.inj H
         have p266 : 0 ≤ (x7_1 : Int) := odx
         have q266 : x7_1 < (l0.length : Int) := odx
         obtain ⟨ad266, e266, hx266_0, hx266_1⟩ := at_T58 HR0.out x7_1 p266 q266
         cases e266
         replace hx266_0 := (HB.out.cell (World.block_lt_of_cell? w _ hx266_0)).trans hx266_0
         replace hx266_1 := (HB.out.cell (World.block_lt_of_cell? w _ hx266_1)).trans hx266_1
         replace p266 := eq_true p266
         replace q266 := eq_true q266
         go_wp2_with (first | ((with_reducible refine gate_dst (N := 4) rfl ?_); refine box_event ?hg (N := 4) ?hd (cs := #[.int .i64 0, .float .f32 (0 : Nat)]) (t := 58) ?hr ?_; (case hd => rfl); (case hg => rfl); (case hr => first | (go_simp; done) | (go_simp; rfl)); intro gb267 hg w24 hbox hb; have n0_ := Aside0.mk (below_step blx hb); have n1_ := Aside0.mk (hbox); have n2_ := Aside0.mk ((by rw [hg]; exact (below_size blx) : w.heap.size ≤ gb267)); have n3_ := Aside0.mk ((by rw [hg]; exact (below_size blx) : w.heap.size ≤ gb267)); clear HB; have HB := n0_; have BK267 := n1_; have GW267 := n2_; have GE267 := n3_; clear n0_ n1_ n2_ n3_; clear hb hbox hg; have hcz25_0 : w24.cell? ⟨gb267, 0, none⟩ = some (.int .i64 0) := (blk_cell BK267.out 0).trans rfl; have hcz25_1 : w24.cell? ⟨gb267, 1, none⟩ = some (.float .f32 (0 : Nat)) := (blk_cell BK267.out 1).trans rfl; have hfz25_0 := blk_frozen BK267.out 0; have hfz25_1 := blk_frozen BK267.out 1) | (go_at_call 50; (with_reducible refine (curve_finite.calls ((rd_T58 l0 x7_1).f1) false _ A11.out).mono ?_); rintro e w' ⟨rfl, ⟨nd, rfl⟩⟩; (try first | exact ⟨rfl, _, World.drewN_drewN _ _ _⟩ | exact ⟨rfl, _, Eq.trans (World.drewN_drewN _ _ _) (congrArg (World.drewN _) (Nat.add_assoc _ _ _))⟩)))
         repeat (go_quiet (first | ((with_reducible refine gate_dst (N := 4) rfl ?_); refine box_event ?hg (N := 4) ?hd (cs := #[.int .i64 0, .float .f32 (0 : Nat)]) (t := 58) ?hr ?_; (case hd => rfl); (case hg => rfl); (case hr => first | (go_simp; done) | (go_simp; rfl)); intro gb267 hg w24 hbox hb; have n0_ := Aside0.mk (below_step blx hb); have n1_ := Aside0.mk (hbox); have n2_ := Aside0.mk ((by rw [hg]; exact (below_size blx) : w.heap.size ≤ gb267)); have n3_ := Aside0.mk ((by rw [hg]; exact (below_size blx) : w.heap.size ≤ gb267)); clear HB; have HB := n0_; have BK267 := n1_; have GW267 := n2_; have GE267 := n3_; clear n0_ n1_ n2_ n3_; clear hb hbox hg; have hcz25_0 : w24.cell? ⟨gb267, 0, none⟩ = some (.int .i64 0) := (blk_cell BK267.out 0).trans rfl; have hcz25_1 : w24.cell? ⟨gb267, 1, none⟩ = some (.float .f32 (0 : Nat)) := (blk_cell BK267.out 1).trans rfl; have hfz25_0 := blk_frozen BK267.out 0; have hfz25_1 := blk_frozen BK267.out 1) | (go_at_call 50; (with_reducible refine (curve_finite.calls ((rd_T58 l0 x7_1).f1) false _ A11.out).mono ?_); rintro e w' ⟨rfl, ⟨nd, rfl⟩⟩; (try first | exact ⟨rfl, _, World.drewN_drewN _ _ _⟩ | exact ⟨rfl, _, Eq.trans (World.drewN_drewN _ _ _) (congrArg (World.drewN _) (Nat.add_assoc _ _ _))⟩))); try go_wp2_with (first | ((with_reducible refine gate_dst (N := 4) rfl ?_); refine box_event ?hg (N := 4) ?hd (cs := #[.int .i64 0, .float .f32 (0 : Nat)]) (t := 58) ?hr ?_; (case hd => rfl); (case hg => rfl); (case hr => first | (go_simp; done) | (go_simp; rfl)); intro gb267 hg w24 hbox hb; have n0_ := Aside0.mk (below_step blx hb); have n1_ := Aside0.mk (hbox); have n2_ := Aside0.mk ((by rw [hg]; exact (below_size blx) : w.heap.size ≤ gb267)); have n3_ := Aside0.mk ((by rw [hg]; exact (below_size blx) : w.heap.size ≤ gb267)); clear HB; have HB := n0_; have BK267 := n1_; have GW267 := n2_; have GE267 := n3_; clear n0_ n1_ n2_ n3_; clear hb hbox hg; have hcz25_0 : w24.cell? ⟨gb267, 0, none⟩ = some (.int .i64 0) := (blk_cell BK267.out 0).trans rfl; have hcz25_1 : w24.cell? ⟨gb267, 1, none⟩ = some (.float .f32 (0 : Nat)) := (blk_cell BK267.out 1).trans rfl; have hfz25_0 := blk_frozen BK267.out 0; have hfz25_1 := blk_frozen BK267.out 1) | (go_at_call 50; (with_reducible refine (curve_finite.calls ((rd_T58 l0 x7_1).f1) false _ A11.out).mono ?_); rintro e w' ⟨rfl, ⟨nd, rfl⟩⟩; (try first | exact ⟨rfl, _, World.drewN_drewN _ _ _⟩ | exact ⟨rfl, _, Eq.trans (World.drewN_drewN _ _ _) (congrArg (World.drewN _) (Nat.add_assoc _ _ _))⟩))))
         go_ret
         exact ⟨by first | rfl | (simp [errW_none, errW_some] <;> rfl) | (simp [*, errW_none, errW_some] <;> rfl), blx⟩
     ·rw [if_neg c4] at H
      exact absurd H (by simp)
    ·rw [if_neg c3] at H
     exact absurd H (by simp)
   ·rw [if_neg c2] at H
    have c2b0 : decide (x7_1 < (l0.length : Int)) = false := decide_eq_false c2
    clear c2
    obtain rfl := Option.some.inj H
    go_wp2
    repeat (go_quiet (fail); try go_wp2)
    go_ret
    exact ⟨by first | rfl | (simp [errW_none, errW_some] <;> rfl) | (simp [*, errW_none, errW_some] <;> rfl), blx⟩
end Go.Proofs.Ytfhgomcfpmbhnaa.PS
end

section
namespace Go.Proofs.Ytfhgomcfpmbhnaa.F
open Go.RowKit Go.Proofs.Ytfhgomcfpmbhnaa.Y Go.Proofs.Ytfhgomcfpmbhnaa.PS Ieee
open Go.Proofs.YtfhgomcfpmbhnaaW.PrintWords Go.Proofs.YtfhgomcfpmbhnaaW.PrintMore
set_option linter.unusedVariables false
set_option linter.unusedSimpArgs false
theorem cmp_lt (a b : Int) : (some (compare a b) == some Ordering.lt) = decide (a < b) := by
  show (some (compareOfLessAndEq a b) == some Ordering.lt) = _
  unfold compareOfLessAndEq
  by_cases h1 : a < b
  · rw [if_pos h1, decide_eq_true h1]; rfl
  · rw [if_neg h1, decide_eq_false h1]; by_cases h2 : a = b
    · rw [if_pos h2]; rfl
    · rw [if_neg h2]; rfl
theorem cmp_gt (a b : Int) : (some (compare a b) == some Ordering.gt) = decide (b < a) := by
  show (some (compareOfLessAndEq a b) == some Ordering.gt) = _
  unfold compareOfLessAndEq
  by_cases h1 : a < b
  · rw [if_pos h1, decide_eq_false (by omega)]; rfl
  · rw [if_neg h1]; by_cases h2 : a = b
    · rw [if_pos h2, decide_eq_false (by omega)]; rfl
    · rw [if_neg h2, decide_eq_true (by omega)]; rfl
theorem fFin_is (x : Nat) (hx : x < 4294967296) : fFin x = decide (x % 2147483648 < 2139095040) := by
  have hn : fl_neg 2139095040 = 4286578688 := by kernel_rfl
  have hs : FloatKind.f32.format = single := rfl
  have o1 : ordI 4286578688 = -2139095040 := by decide
  have o2 : ordI 2139095040 = 2139095040 := by decide
  unfold fFin
  rw [hn, hs]
  by_cases h : 2139095040 < x % 2147483648
  · rw [order_nan x _ hx (by decide) (.inl h), order_nan x _ hx (by decide) (.inl h), decide_eq_false (by omega)]; rfl
  · rw [order_is x _ hx (by decide) (by omega) (by decide), order_is x _ hx (by decide) (by omega) (by decide), o1, o2, cmp_lt, cmp_gt]
    rw [Bool.eq_iff_iff]
    simp only [Bool.and_eq_true, decide_eq_true_eq]
    unfold ordI
    split <;> omega
def dP (d : S73) : S58 := ⟨d.f0, d.f1.toNat⟩
def dB (d : S73) : S38 := ⟨d.f0, d.f1⟩
def Good (l : List S73) : Prop := l.length < 4611686018427387904 ∧ ∀ d ∈ l, (0 ≤ d.f1 ∧ d.f1 < 4294967296) ∧ -9223372036854775808 ≤ d.f0 ∧ d.f0 ≤ 9223372036854775807
theorem rd_P (l : List S73) (i : Int) : rd_T58 (l.map dP) i = dP (rd_T73 l i) := by
  unfold rd_T58 rd_T73
  rw [List.getD_eq_getElem?_getD, List.getD_eq_getElem?_getD, List.getElem?_map]
  cases l[i.toNat]? <;> rfl
theorem rd_B (l : List S73) (i : Int) : rd_T38 (l.map dB) i = dB (rd_T73 l i) := by
  unfold rd_T38 rd_T73
  rw [List.getD_eq_getElem?_getD, List.getD_eq_getElem?_getD, List.getElem?_map]
  cases l[i.toNat]? <;> rfl
theorem Good.at {l : List S73} (h : Good l) (i : Int) : (0 ≤ (rd_T73 l i).f1 ∧ (rd_T73 l i).f1 < 4294967296) ∧ -9223372036854775808 ≤ (rd_T73 l i).f0 ∧ (rd_T73 l i).f0 ≤ 9223372036854775807 := by
  unfold rd_T73
  rw [List.getD_eq_getElem?_getD]
  cases hc : l[i.toNat]? with
  | none => exact ⟨⟨by decide, by decide⟩, by decide, by decide⟩
  | some d => exact h.2 d (List.mem_of_getElem? hc)
def hB (l : List S73) (i : Int) : Nat := (rd_T73 l i).f1.toNat
theorem hB_lt {l : List S73} (h : Good l) (i : Int) : hB l i < 4294967296 ∧ (rd_T73 l i).f1 = (hB l i : Int) := by
  have := (h.at i).1
  unfold hB
  omega
def InOrd (l : List S73) (n : Int) : Prop := ∀ i : Int, 0 ≤ i → i < n → hB l i % 2147483648 < 2139095040 ∧ -9999999999999 ≤ (rd_T73 l i).f0 ∧ (rd_T73 l i).f0 ≤ 9999999999999 ∧ (0 < i → (rd_T73 l (i - 1)).f0 < (rd_T73 l i).f0)
theorem ordered_from {l : List S73} (hg : Good l) : ∀ (n : Nat) (i : Int), 0 ≤ i → i + n = l.length → InOrd l i →
    ∃ b, Ev (fun k => curve_ordered.l0 k (l.map dP) (l.map dP) (l.length : Int) i) b ∧ Ev (fun k => levyref17_Ordered.l0 k (l.map dB) i) b ∧ (b = true → InOrd l l.length) := by
  intro n
  induction n with
  | zero =>
    intro i h0 hn ho
    obtain rfl : i = l.length := by omega
    refine ⟨true, Ev.step (f := fun _ => some true) (fun k => ?_) (Ev.now _), Ev.step (f := fun _ => some true) (fun k => ?_) (Ev.now _), fun _ => ho⟩
    · rw [curve_ordered.l0, if_neg (by omega)]
    · rw [levyref17_Ordered.l0, if_neg (by rw [List.length_map]; omega)]
  | succ n ih =>
    intro i h0 hn ho
    have hlen := hg.1
    obtain ⟨hl, he⟩ := hB_lt hg i
    obtain ⟨_, r0, r1⟩ := hg.at i
    have s1 : ∀ k, curve_ordered.l0 (k + 1) (l.map dP) (l.map dP) (l.length : Int) i = if (rd_T73 l i).f0 < -9999999999999 then some false else if (rd_T73 l i).f0 > 9999999999999 then some false else if hB l i % 2147483648 < 2139095040 then (if i > 0 then (if (rd_T73 l i).f0 ≤ (rd_T73 l (i - 1)).f0 then some false else curve_ordered.l0 k (l.map dP) (l.map dP) (l.length : Int) (i + 1)) else curve_ordered.l0 k (l.map dP) (l.map dP) (l.length : Int) (i + 1)) else some false := by
      intro k
      rw [curve_ordered.l0, if_pos (by omega), if_pos h0, if_pos (by rw [List.length_map]; omega)]
      simp only [rd_P]
      have hw : wrap64 (i + 1) = i + 1 := by unfold wrap64; omega
      have hf : curve_finite.f (dP (rd_T73 l i)).f1 = some (decide (hB l i % 2147483648 < 2139095040)) := by
        show some (fFin (hB l i)) = _
        rw [fFin_is _ hl]
      rw [hf, hw]
      simp only [Option.bind_some, decide_eq_true_eq]
      by_cases hi : i > 0
      · rw [if_pos hi, if_pos hi, show wrap64 (i - 1) = i - 1 by unfold wrap64; omega, if_pos (show 0 ≤ i - 1 by omega), if_pos (show i - 1 < ((l.map dP).length : Int) by rw [List.length_map]; omega)]
        rfl
      · rw [if_neg hi, if_neg hi]
        rfl
    have s2 : ∀ k, levyref17_Ordered.l0 (k + 1) (l.map dB) i = if hB l i % 2147483648 < 2139095040 then (if (rd_T73 l i).f0 < -9999999999999 then some false else if (rd_T73 l i).f0 > 9999999999999 then some false else (if i > 0 then (if (rd_T73 l i).f0 ≤ (rd_T73 l (i - 1)).f0 then some false else levyref17_Ordered.l0 k (l.map dB) (i + 1)) else levyref17_Ordered.l0 k (l.map dB) (i + 1))) else some false := by
      intro k
      rw [levyref17_Ordered.l0, if_pos (by rw [List.length_map]; omega), if_pos h0]
      simp only [rd_B]
      have hw : wrap64 (i + 1) = i + 1 := by unfold wrap64; omega
      have hf : levyref17_Finite.f (dB (rd_T73 l i)).f1 = some (decide (hB l i % 2147483648 < 2139095040)) := by
        show levyref17_Finite.f (rd_T73 l i).f1 = _
        rw [he, fin_is]
      rw [hf, hw]
      simp only [Option.bind_some, decide_eq_true_eq]
      by_cases hi : i > 0
      · rw [if_pos hi, if_pos hi, show wrap64 (i - 1) = i - 1 by unfold wrap64; omega, if_pos (show 0 ≤ i - 1 by omega), if_pos (show i - 1 < ((l.map dB).length : Int) by rw [List.length_map]; omega)]
        rfl
      · rw [if_neg hi, if_neg hi]
        rfl
    have no : (∀ k, curve_ordered.l0 (k + 1) (l.map dP) (l.map dP) (l.length : Int) i = some false) → (∀ k, levyref17_Ordered.l0 (k + 1) (l.map dB) i = some false) → ∃ b, Ev (fun k => curve_ordered.l0 k (l.map dP) (l.map dP) (l.length : Int) i) b ∧ Ev (fun k => levyref17_Ordered.l0 k (l.map dB) i) b ∧ (b = true → InOrd l l.length) :=
      fun a b => ⟨false, Ev.step (f := fun _ => some false) a (Ev.now _), Ev.step (f := fun _ => some false) b (Ev.now _), fun h => absurd h (by decide)⟩
    by_cases c1 : hB l i % 2147483648 < 2139095040
    · by_cases c2 : (rd_T73 l i).f0 < -9999999999999
      · exact no (fun k => by rw [s1, if_pos c2]) (fun k => by rw [s2, if_pos c1, if_pos c2])
      · by_cases c3 : (rd_T73 l i).f0 > 9999999999999
        · exact no (fun k => by rw [s1, if_neg c2, if_pos c3]) (fun k => by rw [s2, if_pos c1, if_neg c2, if_pos c3])
        · by_cases c4 : 0 < i ∧ (rd_T73 l i).f0 ≤ (rd_T73 l (i - 1)).f0
          · exact no (fun k => by rw [s1, if_neg c2, if_neg c3, if_pos c1, if_pos c4.1, if_pos c4.2]) (fun k => by rw [s2, if_pos c1, if_neg c2, if_neg c3, if_pos c4.1, if_pos c4.2])
          · have ho2 : InOrd l (i + 1) := by
              intro j hj0 hj1
              by_cases hji : j < i
              · exact ho j hj0 hji
              · obtain rfl : j = i := by omega
                refine ⟨c1, by omega, by omega, fun hp => ?_⟩
                by_cases h : (rd_T73 l j).f0 ≤ (rd_T73 l (j - 1)).f0
                · exact absurd ⟨hp, h⟩ c4
                · omega
            obtain ⟨b, b1, b2, b3⟩ := ih (i + 1) (by omega) (by omega) ho2
            refine ⟨b, Ev.step (fun k => ?_) b1, Ev.step (fun k => ?_) b2, b3⟩
            · rw [s1, if_neg c2, if_neg c3, if_pos c1]
              by_cases hi : i > 0
              · rw [if_pos hi, if_neg (fun h => c4 ⟨hi, h⟩)]
              · rw [if_neg hi]
            · rw [s2, if_pos c1, if_neg c2, if_neg c3]
              by_cases hi : i > 0
              · rw [if_pos hi, if_neg (fun h => c4 ⟨hi, h⟩)]
              · rw [if_neg hi]
    · refine no (fun k => ?_) (fun k => by rw [s2, if_neg c1])
      rw [s1, if_neg c1]
      split
      · rfl
      · split <;> rfl
theorem ordered_is {l : List S73} (hg : Good l) : ∃ b, Ev (fun k => curve_ordered.f k (l.map dP)) b ∧ Ev (fun k => levyref17_Ordered.f k (l.map dB)) b ∧ (b = true → InOrd l l.length) := by
  obtain ⟨b, b1, b2, b3⟩ := ordered_from hg l.length 0 (by omega) (by omega) (fun i h0 h1 => by omega)
  refine ⟨b, Ev.congr (fun k => ?_) b1, b2, b3⟩
  unfold curve_ordered.f
  rw [List.length_map]
end Go.Proofs.Ytfhgomcfpmbhnaa.F
end
