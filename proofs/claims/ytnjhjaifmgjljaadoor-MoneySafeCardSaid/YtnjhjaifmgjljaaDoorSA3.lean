-- Part 3 of the texts of the claim SA (wrote by programs: words of the kit's print.sh, printed functions; and my own texts; joined by wip/tools/pack.py).
import Derived.Test.YtnjhjaifmgjljaaDoorSA2

section
namespace Go.Proofs.YtnjhjaifmgjljaaDoor.PM
open Go.RowKit Go.Proofs.YtnjhjaifmgjljaaDoorW.PrintWords Go.Proofs.YtnjhjaifmgjljaaDoorW.PrintLast Go.Proofs.YtnjhjaifmgjljaaDoorW.PrintMore
attribute [local go_sem] max2_int min2_int max_two min_two max_three min_three max_four min_four
set_option linter.unusedVariables false
set_option linter.unusedSimpArgs false
mutual
def money_Compare.j0 : Nat → Int → Int → Bool → Int → Int → Int → Int → Option (Int × Int)
 | 0, _, _, _, _, _, _, _ => none
 | k + 1, x0, x7, x16, x403000, x403001, x404000, x404001 => if x16 = true then (money_Compare.j1 k x0 4 x403000 x403001 x404000 x404001) else (money_Compare.j1 k x0 x7 x403000 x403001 x404000 x404001)
def money_Compare.j1 : Nat → Int → Int → Int → Int → Int → Int → Option (Int × Int)
 | 0, _, _, _, _, _, _ => none
 | k + 1, x0, x7, x403000, x403001, x404000, x404001 => (money_alike.f k x7 (([(⟨x403000, x403001⟩ : S23), (⟨x404000, x404001⟩ : S23)] : List (S23)))).bind fun bt408 => (if bt408.2.2 = true then (if x0 = 25 then (if x403001 = x404001 then (some (3, 1)) else (some (3, 0))) else (if x0 = 26 then (if x403001 = x404001 then (some (3, 0)) else (some (3, 1))) else (if x0 = 27 then (if x403001 < x404001 then (some (3, 1)) else (some (3, 0))) else (if x0 = 28 then (if x403001 ≤ x404001 then (some (3, 1)) else (some (3, 0))) else (if x0 = 29 then (if x403001 > x404001 then (some (3, 1)) else (some (3, 0))) else (if x0 = 30 then (if x403001 ≥ x404001 then (some (3, 1)) else (some (3, 0))) else ((money_fault.f 5).bind fun bt412 => (some (bt412.1, bt412.2))))))))) else (some (bt408.1, bt408.2.1)))
end
def money_Compare.f (k : Nat) (a0 : Int) (a1_0 : Int) (a1_1 : Int) (a2_0 : Int) (a2_1 : Int) : Option (Int × Int) := if a0 = 25 then (money_Compare.j0 k a0 2 true a1_0 a1_1 a2_0 a2_1) else (money_Compare.j0 k a0 2 (a0 == 26) a1_0 a1_1 a2_0 a2_1)
theorem money_Compare.mono_l : ∀ k, (∀ y0 y1 y2 y3 y4 y5 y6, LeO (money_Compare.j0 k y0 y1 y2 y3 y4 y5 y6) (money_Compare.j0 (k + 1) y0 y1 y2 y3 y4 y5 y6)) ∧ (∀ y0 y1 y2 y3 y4 y5, LeO (money_Compare.j1 k y0 y1 y2 y3 y4 y5) (money_Compare.j1 (k + 1) y0 y1 y2 y3 y4 y5))
 | 0 => ⟨fun _ _ _ _ _ _ _ r h => by simp [money_Compare.j0] at h, fun _ _ _ _ _ _ r h => by simp [money_Compare.j1] at h⟩
 | k + 1 => by
  obtain ⟨ih0, ih1⟩ := money_Compare.mono_l k
  refine ⟨?_, ?_⟩
  ·intro y0 y1 y2 y3 y4 y5 y6
   unfold money_Compare.j0
   repeat' first
   | (with_reducible exact ih0 _ _ _ _ _ _ _)
   | (with_reducible exact ih1 _ _ _ _ _ _)
   | (with_reducible exact money_alike.mono _ _ _)
   | (with_reducible exact LeO.refl _)
   | (with_reducible exact LeO.none _)
   | (with_reducible refine LeO.ite ?_ ?_)
   | (with_reducible refine LeO.bind ?_ (fun _ => ?_))
   | exact ih0 _ _ _ _ _ _ _
   | exact ih1 _ _ _ _ _ _
   | exact money_alike.mono _ _ _
   | exact LeO.none _
   | refine LeO.ite ?_ ?_
   | refine LeO.bind ?_ (fun _ => ?_)
  ·intro y0 y1 y2 y3 y4 y5
   unfold money_Compare.j1
   repeat' first
   | (with_reducible exact ih0 _ _ _ _ _ _ _)
   | (with_reducible exact ih1 _ _ _ _ _ _)
   | (with_reducible exact money_alike.mono _ _ _)
   | (with_reducible exact LeO.refl _)
   | (with_reducible exact LeO.none _)
   | (with_reducible refine LeO.ite ?_ ?_)
   | (with_reducible refine LeO.bind ?_ (fun _ => ?_))
   | exact ih0 _ _ _ _ _ _ _
   | exact ih1 _ _ _ _ _ _
   | exact money_alike.mono _ _ _
   | exact LeO.none _
   | refine LeO.ite ?_ ?_
   | refine LeO.bind ?_ (fun _ => ?_)
theorem money_Compare.mono : ∀ a0 a1 a2 a3 a4 k, LeO (money_Compare.f k a0 a1 a2 a3 a4) (money_Compare.f (k + 1) a0 a1 a2 a3 a4) := by
 intro a0 a1 a2 a3 a4 k
 obtain ⟨ih0, ih1⟩ := money_Compare.mono_l k
 unfold money_Compare.f
 repeat' first
   | (with_reducible exact ih0 _ _ _ _ _ _ _)
   | (with_reducible exact ih1 _ _ _ _ _ _)
   | (with_reducible exact money_alike.mono _ _ _)
   | (with_reducible exact LeO.refl _)
   | (with_reducible exact LeO.none _)
   | (with_reducible refine LeO.ite ?_ ?_)
   | (with_reducible refine LeO.bind ?_ (fun _ => ?_))
   | exact ih0 _ _ _ _ _ _ _
   | exact ih1 _ _ _ _ _ _
   | exact money_alike.mono _ _ _
   | exact LeO.none _
   | refine LeO.ite ?_ ?_
   | refine LeO.bind ?_ (fun _ => ?_)
set_option maxHeartbeats 8000000 in
set_option maxRecDepth 100000 in
theorem money_Compare.calls (k : Nat) (a0 : Int) (a1_0 : Int) (a1_1 : Int) (a2_0 : Int) (a2_1 : Int) (r1 : Int) (r2 : Int) (w : World) (h : money_Compare.f k a0 a1_0 a1_1 a2_0 a2_1 = some (r1, r2)) (hg0 : Kd.C k87 w (some ⟨0, 0, none⟩) gtab0.length gtab0) :
  Calls Tryd.prog 37 #[.int .i64 a0, .agg #[.int .i64 a1_0, .int .i64 a1_1], .agg #[.int .i64 a2_0, .int .i64 a2_1]] w fun e w' => e = .returned (.agg #[.int .i64 r1, .int .i64 r2]) ∧ Below w.heap.size w w' := by
 have HG0 := Aside0.mk hg0
 clear hg0
 have hu23 := Tryd.underlying23
 have HB := Aside0.mk (Below.refl w.heap.size w)
 have H : (if a0 = 25 then (money_Compare.j0 k a0 2 true a1_0 a1_1 a2_0 a2_1) else (money_Compare.j0 k a0 2 (a0 == 26) a1_0 a1_1 a2_0 a2_1)) = some (r1, r2) := h
 clear h
 have HC4 := Aside0.mk H
 clear H
 go_enter Tryd.func37, Tryd.ntmps37
 go_upto_region 2 with (first | ((with_reducible refine gate_dst (N := 4) rfl ?_); refine bxe (N := 4) (cs := #[.int .i64 a1_0, .int .i64 a1_1]) (t := 23) ?_; intro gb402 hg w5 hbox hb; have BK402 := Aside0.mk (hbox); have GW402 : Aside0 (w.heap.size ≤ gb402) := gwx hg; have GE402 : Aside0 (w.heap.size ≤ gb402) := gwx hg; replace HB := Aside0.mk (below_step blx hb); clear hb hbox hg) | ((with_reducible refine gate_dst (N := 5) rfl ?_); refine bxe (N := 5) (cs := #[.int .i64 a2_0, .int .i64 a2_1]) (t := 23) ?_; intro gb403 hg w6 hbox hb; have BK403 := Aside0.mk (hbox); have GW403 : Aside0 (w.heap.size ≤ gb403) := gwx hg; have GE403 : Aside0 (w.heap.size ≤ gb403) := gwx hg; replace HB := Aside0.mk (below_step blx hb); have NB402_403 := nbl BK402 hg; have NB403_402 := nbg BK402 hg; replace BK402 := bkq BK402 hb; clear hb hbox hg) | ((with_reducible refine gate_dst (N := 6) rfl ?_); refine bxe (N := 6) (cs := #[.int .i64 0, .int .i64 0]) (t := 23) ?_; intro gb404 hg w7 hbox hb; have BK404 := Aside0.mk (hbox); have GW404 : Aside0 (w.heap.size ≤ gb404) := gwx hg; have GE404 : Aside0 (w.heap.size ≤ gb404) := gwx hg; replace HB := Aside0.mk (below_step blx hb); have NB402_404 := nbl BK402 hg; have NB404_402 := nbg BK402 hg; replace BK402 := bkq BK402 hb; have NB403_404 := nbl BK403 hg; have NB404_403 := nbg BK403 hg; replace BK403 := bkq BK403 hb; clear hb hbox hg))
 (try simp only [Act.put, List.setIfInBounds_toArray, List.set_cons_zero, List.set_cons_succ])
 go_cut [16] (fun v16 wc => ∃ (kq : Nat) (x16_3 : Bool), v16 = .bool x16_3 ∧ Aside0 (money_Compare.j0 kq a0 2 x16_3 a1_0 a1_1 a2_0 a2_1 = some (r1, r2)) ∧ Aside0 (kq ≤ k) ∧ Aside0 (wc.heap[gb402]? = some (.cells #[.int .i64 a1_0, .int .i64 a1_1] 23 (0, 0))) ∧ Aside0 (wc.heap[gb403]? = some (.cells #[.int .i64 a2_0, .int .i64 a2_1] 23 (0, 0))) ∧ Aside0 (wc.heap[gb404]? = some (.cells #[.int .i64 0, .int .i64 0] 23 (0, 0))) ∧ Aside0 (Below w.heap.size w wc))
 case first =>
  have H := HC4.out
  clear HC4
  by_cases c8 : a0 = 25
  ·rw [if_pos c8] at H
   have c8b0 : (a0 == 25) = true := beq_iff_eq.mpr c8
   have c8b1 : (a0 != 25) = false := bne_eq_false_iff_eq.mpr c8
   clear c8
   (first | rw [c8b0] | (simp only [i64_w, i32_w]; rw [c8b0]) | skip)
   have H' := Aside0.mk H
   clear H
   go_wp2
   go_meet
   case rel => exact ⟨_, (true), (by first | rfl | (simp; done) | (simp [*]; done)), H', ⟨by first | omega | exact Nat.le_refl _⟩, ⟨bkx⟩, ⟨bkx⟩, ⟨bkx⟩, ⟨blx⟩⟩
  ·rw [if_neg c8] at H
   have c8b0 : (a0 == 25) = false := beq_eq_false_iff_ne.mpr c8
   have c8b1 : (a0 != 25) = true := bne_iff_ne.mpr c8
   (first | rw [c8b0] | (simp only [i64_w, i32_w]; rw [c8b0]) | skip)
   have H' := Aside0.mk H
   clear H
   go_wp2
   go_meet
   case rel => exact ⟨_, ((a0 == 26)), (by first | rfl | (simp; done) | (simp [*]; done)), H', ⟨by first | omega | exact Nat.le_refl _⟩, ⟨bkx⟩, ⟨bkx⟩, ⟨bkx⟩, ⟨blx⟩⟩
 case rest =>
  clear HC4
  try clear p2
  try clear c3
  try clear c8
  try clear c8b0
  try clear c8b1
  obtain ⟨kq, x16_3, rfl, HA, HJ3, BK402, BK403, BK404, HB⟩ := hcut
  cases kq with
  | zero => exact absurd HA.out (by simp [money_Compare.j0])
  | succ kj3 =>
   have H := HA.out
   clear HA
   simp only [money_Compare.j0] at H
   have HC9 := Aside0.mk H
   clear H
   go_upto_if 16 with (fail)
   go_cut [7] (fun v7 wc => ∃ (kq : Nat) (x7_8 : Int), v7 = .int .i64 x7_8 ∧ Aside0 (money_Compare.j1 kq a0 x7_8 a1_0 a1_1 a2_0 a2_1 = some (r1, r2)) ∧ Aside0 (kq ≤ kj3) ∧ Aside0 (wc.heap[gb402]? = some (.cells #[.int .i64 a1_0, .int .i64 a1_1] 23 (0, 0))) ∧ Aside0 (wc.heap[gb403]? = some (.cells #[.int .i64 a2_0, .int .i64 a2_1] 23 (0, 0))) ∧ Aside0 (wc.heap[gb404]? = some (.cells #[.int .i64 0, .int .i64 0] 23 (0, 0))) ∧ Aside0 (Below w.heap.size w wc))
   case first =>
    have H := HC9.out
    clear HC9
    by_cases c10 : x16_3 = true
    ·subst c10
     have H1 : (money_Compare.j1 kj3 a0 4 a1_0 a1_1 a2_0 a2_1) = some (r1, r2) := by rw [if_pos rfl] at H; exact H
     clear H
     have H := H1
     clear H1
     have H' := Aside0.mk H
     clear H
     go_wp2
     go_meet
     case rel => exact ⟨_, (4), (by first | rfl | (simp; done) | (simp [*]; done)), H', ⟨by have := HJ3.out; first | omega | exact Nat.le_refl _⟩, ⟨bkx⟩, ⟨bkx⟩, ⟨bkx⟩, ⟨blx⟩⟩
    ·replace c10 := Bool.eq_false_iff.mpr c10
     subst c10
     have H1 : (money_Compare.j1 kj3 a0 2 a1_0 a1_1 a2_0 a2_1) = some (r1, r2) := by rw [if_neg (show ¬ (false = true) by decide)] at H; exact H
     clear H
     have H := H1
     clear H1
     have H' := Aside0.mk H
     clear H
     go_wp2
     go_meet
     case rel => exact ⟨_, (2), (by first | rfl | (simp; done) | (simp [*]; done)), H', ⟨by have := HJ3.out; first | omega | exact Nat.le_refl _⟩, ⟨bkx⟩, ⟨bkx⟩, ⟨bkx⟩, ⟨blx⟩⟩
   case rest =>
    clear HC9
    try clear c1
    try clear p2
    try clear c3
    try clear c8
    try clear c8b0
    try clear c8b1
    try clear c10
    try clear p2
    obtain ⟨kq, x7_8, rfl, HA, HJ8, BK402, BK403, BK404, HB⟩ := hcut
    cases kq with
    | zero => exact absurd HA.out (by simp [money_Compare.j1])
    | succ kj8 =>
     have H := HA.out
     clear HA
     simp only [money_Compare.j1] at H
     obtain ⟨y405, hy405⟩ : ∃ y_ : List (S23), y_ = (([(⟨a1_0, a1_1⟩ : S23), (⟨a2_0, a2_1⟩ : S23)] : List (S23))) := ⟨_, rfl⟩
     replace H : ((money_alike.f kj8 x7_8 y405).bind fun bt408 => (if bt408.2.2 = true then (if a0 = 25 then (if a1_1 = a2_1 then (some (3, 1)) else (some (3, 0))) else (if a0 = 26 then (if a1_1 = a2_1 then (some (3, 0)) else (some (3, 1))) else (if a0 = 27 then (if a1_1 < a2_1 then (some (3, 1)) else (some (3, 0))) else (if a0 = 28 then (if a1_1 ≤ a2_1 then (some (3, 1)) else (some (3, 0))) else (if a0 = 29 then (if a1_1 > a2_1 then (some (3, 1)) else (some (3, 0))) else (if a0 = 30 then (if a1_1 ≥ a2_1 then (some (3, 1)) else (some (3, 0))) else ((money_fault.f 5).bind fun bt412 => (some (bt412.1, bt412.2))))))))) else (some (bt408.1, bt408.2.1)))) = some (r1, r2) := by first | (rw [hy405]; with_reducible exact H) | (have H2_ := (Option.bind_some _ _).symm.trans H; rw [hy405]; with_reducible exact H2_) | (have H2_ := (Option.bind_some _ _).symm.trans H; with_reducible exact H2_) | with_reducible exact H | (rw [hy405]; exact H) | exact H
     have Ny405 := Aside0.mk hy405
     clear hy405
     replace H := Option.bind_eq_some_iff.mp H
     obtain ⟨⟨t408, t409, t410⟩, A110, H⟩ := H
     replace H : (if t410 = true then (if a0 = 25 then (if a1_1 = a2_1 then (some (3, 1)) else (some (3, 0))) else (if a0 = 26 then (if a1_1 = a2_1 then (some (3, 0)) else (some (3, 1))) else (if a0 = 27 then (if a1_1 < a2_1 then (some (3, 1)) else (some (3, 0))) else (if a0 = 28 then (if a1_1 ≤ a2_1 then (some (3, 1)) else (some (3, 0))) else (if a0 = 29 then (if a1_1 > a2_1 then (some (3, 1)) else (some (3, 0))) else (if a0 = 30 then (if a1_1 ≥ a2_1 then (some (3, 1)) else (some (3, 0))) else ((money_fault.f 5).bind fun bt412 => (some (bt412.1, bt412.2))))))))) else (some (t408, t409))) = some (r1, r2) := H
     have A11 := Aside0.mk A110
     clear A110
     by_cases c12 : t410 = true
     ·subst c12
      have H1 : (if a0 = 25 then (if a1_1 = a2_1 then (some (3, 1)) else (some (3, 0))) else (if a0 = 26 then (if a1_1 = a2_1 then (some (3, 0)) else (some (3, 1))) else (if a0 = 27 then (if a1_1 < a2_1 then (some (3, 1)) else (some (3, 0))) else (if a0 = 28 then (if a1_1 ≤ a2_1 then (some (3, 1)) else (some (3, 0))) else (if a0 = 29 then (if a1_1 > a2_1 then (some (3, 1)) else (some (3, 0))) else (if a0 = 30 then (if a1_1 ≥ a2_1 then (some (3, 1)) else (some (3, 0))) else ((money_fault.f 5).bind fun bt412 => (some (bt412.1, bt412.2))))))))) = some (r1, r2) := by rw [if_pos rfl] at H; exact H
      clear H
      have H := H1
      clear H1
      by_cases c13 : a0 = 25
      ·rw [if_pos c13] at H
       have c13b0 : (a0 == 25) = true := beq_iff_eq.mpr c13
       have c13b1 : (a0 != 25) = false := bne_eq_false_iff_eq.mpr c13
       clear c13
       by_cases c14 : a1_1 = a2_1
       ·rw [if_pos c14] at H
        have c14b0 : (a1_1 == a2_1) = true := beq_iff_eq.mpr c14
        have c14b1 : (a1_1 != a2_1) = false := bne_eq_false_iff_eq.mpr c14
        clear c14
        simp only [Option.some.injEq, Prod.mk.injEq] at H
        obtain ⟨rfl, rfl⟩ := H
        have hnb15 := NB402_403.out
        have hnc15 := NB403_402.out
        have hnb16 := NB402_404.out
        have hnc16 := NB404_402.out
        obtain ⟨hcz17_0, hcz17_1, hfz17_0, hfz17_1⟩ := c2_ BK402
        have hnb18 := NB403_404.out
        have hnc18 := NB404_403.out
        obtain ⟨hcz19_0, hcz19_1, hfz19_0, hfz19_1⟩ := c2_ BK403
        go_wp2_with (first | ((with_reducible refine gate_dst (N := 21) rfl ?_); refine Kd.R_lit k23 _ 23 ?hg (N := 21) ?hd (xs := ([(⟨a1_0, a1_1⟩ : S23), (⟨a2_0, a2_1⟩ : S23)] : List (S23))) (inner := [.int .i64 a1_0, .int .i64 a1_1, .int .i64 a2_0, .int .i64 a2_1]) (ok := fun _ => True) (okp := fun _ => True) ?hr ?hp (fun _ hk => hk) trivial (Below.refl _ _) (Nat.le_refl _) (by simp) ?_; (case hd => rfl); (case hg => rfl); (case hr => first | (go_simp; done) | (go_simp; rfl)); (case hp => exact (Reps.c2 (show Kd.M k23 _ _ _ (⟨a1_0, a1_1⟩ : S23) [.int .i64 a1_0, .int .i64 a1_1] from (k23_mkM _ _ _ (⟨a1_0, a1_1⟩ : S23) )) (Reps.c2 (show Kd.M k23 _ _ _ (⟨a2_0, a2_1⟩ : S23) [.int .i64 a2_0, .int .i64 a2_1] from (k23_mkM _ _ _ (⟨a2_0, a2_1⟩ : S23) )) (Reps.none _ _)))); intro v406 w20 ho21 hb hg_ hnew_; clear hg_ hnew_; (first | rw [← Ny405.out] at ho21 | (simp only [Int.reduceToNat] at ho21; rw [← Ny405.out] at ho21)); have HO407 := Aside0.mk (Kd.R_lower (Kd.R_newB (Kd.R_newB (Kd.R_newB ho21 (g := gb402) (o := .cells #[.int .i64 a1_0, .int .i64 a1_1] 23 (0, 0)) bkx) (g := gb403) (o := .cells #[.int .i64 a2_0, .int .i64 a2_1] 23 (0, 0)) bkx) (g := gb404) (o := .cells #[.int .i64 0, .int .i64 0] 23 (0, 0)) bkx) (below_size blx)); replace BK402 := bkq BK402 hb; replace BK403 := bkq BK403 hb; replace BK404 := bkq BK404 hb; replace HB := Aside0.mk (below_step blx hb); clear hb ho21; obtain ⟨Ao22, co22, eo22⟩ := Kd.R_slice HO407.out; subst eo22) | ((with_reducible refine gate_callee (f := 61) rfl ?_); refine goesL_ (some 22) rfl rfl Tryd.func61 (by kernel_rfl) rfl #[.int .i64 x7_8, .slice Ao22 y405.length co22] rfl agx ?_; (with_reducible refine (money_alike.calls kj8 x7_8 _ _ y405 t408 t409 true _ ?side1 ?side2 A11.out (by first | exact HG0.out | exact Kd.C_below HG0.out blx)).mono ?_); (case side1 => exact crx HO407); (case side2 => exact (Kd.R_reads' HO407.out).2.1); rintro e w23 ⟨rfl, hb⟩; refine ⟨_, rfl, ?_⟩; replace HO407 := hoq HO407 hb; replace BK402 := bkq BK402 hb; replace BK403 := bkq BK403 hb; replace BK404 := bkq BK404 hb; replace HB := Aside0.mk (below_step blx hb); (try clear hb); (try clear hb2); (try clear hk); (try clear hi)) | ((with_reducible refine gate_dst (N := 8) rfl ?_); refine bxe (N := 8) (cs := #[.int .i64 0, .int .i64 0]) (t := 23) ?_; intro gb411 hg w24 hbox hb; replace HO407 := Aside0.mk (Kd.R_below (Kd.R_elderB (by (with_reducible repeat (first | apply Kd.R_alloc | apply Kd.R_drewN | apply Kd.R_drew)); exact HO407.out) gb411 (Nat.le_of_eq hg.symm)) hb); have BK411 := Aside0.mk (hbox); have GW411 : Aside0 (w.heap.size ≤ gb411) := gwx hg; have GE411 : Aside0 (w.heap.size ≤ gb411) := gwx hg; replace HB := Aside0.mk (below_step blx hb); have NB402_411 := nbl BK402 hg; have NB411_402 := nbg BK402 hg; replace BK402 := bkq BK402 hb; have NB403_411 := nbl BK403 hg; have NB411_403 := nbg BK403 hg; replace BK403 := bkq BK403 hb; have NB404_411 := nbl BK404 hg; have NB411_404 := nbg BK404 hg; replace BK404 := bkq BK404 hb; clear hb hbox hg; have hnb25 := NB411_402.out; have hnc25 := NB402_411.out; have hnb26 := NB411_403.out; have hnc26 := NB403_411.out; have hnb27 := NB411_404.out; have hnc27 := NB404_411.out; obtain ⟨hcz28_0, hcz28_1, hfz28_0, hfz28_1⟩ := c2_ BK411; obtain ⟨hcz29_0, hcz29_1, hfz29_0, hfz29_1⟩ := c2_ BK402; obtain ⟨hcz30_0, hcz30_1, hfz30_0, hfz30_1⟩ := c2_ BK403; obtain ⟨hcz31_0, hcz31_1, hfz31_0, hfz31_1⟩ := c2_ BK404))
        refine bodyPost_ret (results_cell_row rfl _ _ gb404 23 #[.int .i64 3, .int .i64 1] (0, 0) _ rfl (by (with_reducible repeat (first | refine blk_drewN ?_ _ | refine blk_drew ?_ | refine blk_alloc ?_ _)); refine blk_put (cs := #[.int .i64 3, .int .i64 0]) ?_ 1 _ rfl; (with_reducible repeat (first | refine blk_drewN ?_ _ | refine blk_drew ?_ | refine blk_alloc ?_ _)); refine blk_put (cs := #[.int .i64 0, .int .i64 0]) ?_ 0 _ rfl; (with_reducible repeat (first | refine blk_drewN ?_ _ | refine blk_drew ?_ | refine blk_alloc ?_ _)); refine blk_far ?_ NB404_411.out _; (with_reducible repeat (first | refine blk_drewN ?_ _ | refine blk_drew ?_ | refine blk_alloc ?_ _)); refine blk_far ?_ NB404_411.out _; (with_reducible repeat (first | refine blk_drewN ?_ _ | refine blk_drew ?_ | refine blk_alloc ?_ _)); exact BK404.out) Tryd.underlying23 rfl (by kernel_rfl)) rfl ?_
        exact ⟨by first | rfl | (simp [errW_none, errW_some] <;> rfl) | (simp [*, errW_none, errW_some] <;> rfl), blx⟩
       ·rw [if_neg c14] at H
        have c14b0 : (a1_1 == a2_1) = false := beq_eq_false_iff_ne.mpr c14
        have c14b1 : (a1_1 != a2_1) = true := bne_iff_ne.mpr c14
        simp only [Option.some.injEq, Prod.mk.injEq] at H
        obtain ⟨rfl, rfl⟩ := H
        have hnb32 := NB402_403.out
        have hnc32 := NB403_402.out
        have hnb33 := NB402_404.out
        have hnc33 := NB404_402.out
        obtain ⟨hcz34_0, hcz34_1, hfz34_0, hfz34_1⟩ := c2_ BK402
        have hnb35 := NB403_404.out
        have hnc35 := NB404_403.out
        obtain ⟨hcz36_0, hcz36_1, hfz36_0, hfz36_1⟩ := c2_ BK403
        go_wp2_with (first | ((with_reducible refine gate_dst (N := 21) rfl ?_); refine Kd.R_lit k23 _ 23 ?hg (N := 21) ?hd (xs := ([(⟨a1_0, a1_1⟩ : S23), (⟨a2_0, a2_1⟩ : S23)] : List (S23))) (inner := [.int .i64 a1_0, .int .i64 a1_1, .int .i64 a2_0, .int .i64 a2_1]) (ok := fun _ => True) (okp := fun _ => True) ?hr ?hp (fun _ hk => hk) trivial (Below.refl _ _) (Nat.le_refl _) (by simp) ?_; (case hd => rfl); (case hg => rfl); (case hr => first | (go_simp; done) | (go_simp; rfl)); (case hp => exact (Reps.c2 (show Kd.M k23 _ _ _ (⟨a1_0, a1_1⟩ : S23) [.int .i64 a1_0, .int .i64 a1_1] from (k23_mkM _ _ _ (⟨a1_0, a1_1⟩ : S23) )) (Reps.c2 (show Kd.M k23 _ _ _ (⟨a2_0, a2_1⟩ : S23) [.int .i64 a2_0, .int .i64 a2_1] from (k23_mkM _ _ _ (⟨a2_0, a2_1⟩ : S23) )) (Reps.none _ _)))); intro v406 w37 ho38 hb hg_ hnew_; clear hg_ hnew_; (first | rw [← Ny405.out] at ho38 | (simp only [Int.reduceToNat] at ho38; rw [← Ny405.out] at ho38)); have HO407 := Aside0.mk (Kd.R_lower (Kd.R_newB (Kd.R_newB (Kd.R_newB ho38 (g := gb402) (o := .cells #[.int .i64 a1_0, .int .i64 a1_1] 23 (0, 0)) bkx) (g := gb403) (o := .cells #[.int .i64 a2_0, .int .i64 a2_1] 23 (0, 0)) bkx) (g := gb404) (o := .cells #[.int .i64 0, .int .i64 0] 23 (0, 0)) bkx) (below_size blx)); replace BK402 := bkq BK402 hb; replace BK403 := bkq BK403 hb; replace BK404 := bkq BK404 hb; replace HB := Aside0.mk (below_step blx hb); clear hb ho38; obtain ⟨Ao39, co39, eo39⟩ := Kd.R_slice HO407.out; subst eo39) | ((with_reducible refine gate_callee (f := 61) rfl ?_); refine goesL_ (some 22) rfl rfl Tryd.func61 (by kernel_rfl) rfl #[.int .i64 x7_8, .slice Ao39 y405.length co39] rfl agx ?_; (with_reducible refine (money_alike.calls kj8 x7_8 _ _ y405 t408 t409 true _ ?side1 ?side2 A11.out (by first | exact HG0.out | exact Kd.C_below HG0.out blx)).mono ?_); (case side1 => exact crx HO407); (case side2 => exact (Kd.R_reads' HO407.out).2.1); rintro e w40 ⟨rfl, hb⟩; refine ⟨_, rfl, ?_⟩; replace HO407 := hoq HO407 hb; replace BK402 := bkq BK402 hb; replace BK403 := bkq BK403 hb; replace BK404 := bkq BK404 hb; replace HB := Aside0.mk (below_step blx hb); (try clear hb); (try clear hb2); (try clear hk); (try clear hi)) | ((with_reducible refine gate_dst (N := 8) rfl ?_); refine bxe (N := 8) (cs := #[.int .i64 0, .int .i64 0]) (t := 23) ?_; intro gb411 hg w41 hbox hb; replace HO407 := Aside0.mk (Kd.R_below (Kd.R_elderB (by (with_reducible repeat (first | apply Kd.R_alloc | apply Kd.R_drewN | apply Kd.R_drew)); exact HO407.out) gb411 (Nat.le_of_eq hg.symm)) hb); have BK411 := Aside0.mk (hbox); have GW411 : Aside0 (w.heap.size ≤ gb411) := gwx hg; have GE411 : Aside0 (w.heap.size ≤ gb411) := gwx hg; replace HB := Aside0.mk (below_step blx hb); have NB402_411 := nbl BK402 hg; have NB411_402 := nbg BK402 hg; replace BK402 := bkq BK402 hb; have NB403_411 := nbl BK403 hg; have NB411_403 := nbg BK403 hg; replace BK403 := bkq BK403 hb; have NB404_411 := nbl BK404 hg; have NB411_404 := nbg BK404 hg; replace BK404 := bkq BK404 hb; clear hb hbox hg; have hnb42 := NB411_402.out; have hnc42 := NB402_411.out; have hnb43 := NB411_403.out; have hnc43 := NB403_411.out; have hnb44 := NB411_404.out; have hnc44 := NB404_411.out; obtain ⟨hcz45_0, hcz45_1, hfz45_0, hfz45_1⟩ := c2_ BK411; obtain ⟨hcz46_0, hcz46_1, hfz46_0, hfz46_1⟩ := c2_ BK402; obtain ⟨hcz47_0, hcz47_1, hfz47_0, hfz47_1⟩ := c2_ BK403; obtain ⟨hcz48_0, hcz48_1, hfz48_0, hfz48_1⟩ := c2_ BK404))
        refine bodyPost_ret (results_cell_row rfl _ _ gb404 23 #[.int .i64 3, .int .i64 0] (0, 0) _ rfl (by (with_reducible repeat (first | refine blk_drewN ?_ _ | refine blk_drew ?_ | refine blk_alloc ?_ _)); refine blk_put (cs := #[.int .i64 3, .int .i64 0]) ?_ 1 _ rfl; (with_reducible repeat (first | refine blk_drewN ?_ _ | refine blk_drew ?_ | refine blk_alloc ?_ _)); refine blk_put (cs := #[.int .i64 0, .int .i64 0]) ?_ 0 _ rfl; (with_reducible repeat (first | refine blk_drewN ?_ _ | refine blk_drew ?_ | refine blk_alloc ?_ _)); refine blk_far ?_ NB404_411.out _; (with_reducible repeat (first | refine blk_drewN ?_ _ | refine blk_drew ?_ | refine blk_alloc ?_ _)); refine blk_far ?_ NB404_411.out _; (with_reducible repeat (first | refine blk_drewN ?_ _ | refine blk_drew ?_ | refine blk_alloc ?_ _)); exact BK404.out) Tryd.underlying23 rfl (by kernel_rfl)) rfl ?_
        exact ⟨by first | rfl | (simp [errW_none, errW_some] <;> rfl) | (simp [*, errW_none, errW_some] <;> rfl), blx⟩
      ·rw [if_neg c13] at H
       have c13b0 : (a0 == 25) = false := beq_eq_false_iff_ne.mpr c13
       have c13b1 : (a0 != 25) = true := bne_iff_ne.mpr c13
       by_cases c49 : a0 = 26
       ·rw [if_pos c49] at H
        have c49b0 : (a0 == 26) = true := beq_iff_eq.mpr c49
        have c49b1 : (a0 != 26) = false := bne_eq_false_iff_eq.mpr c49
        clear c49
        by_cases c50 : a1_1 = a2_1
        ·rw [if_pos c50] at H
         have c50b0 : (a1_1 == a2_1) = true := beq_iff_eq.mpr c50
         have c50b1 : (a1_1 != a2_1) = false := bne_eq_false_iff_eq.mpr c50
         clear c50
         simp only [Option.some.injEq, Prod.mk.injEq] at H
         obtain ⟨rfl, rfl⟩ := H
         have hnb51 := NB402_403.out
         have hnc51 := NB403_402.out
         have hnb52 := NB402_404.out
         have hnc52 := NB404_402.out
         obtain ⟨hcz53_0, hcz53_1, hfz53_0, hfz53_1⟩ := c2_ BK402
         have hnb54 := NB403_404.out
         have hnc54 := NB404_403.out
         obtain ⟨hcz55_0, hcz55_1, hfz55_0, hfz55_1⟩ := c2_ BK403
         go_wp2_with (first | ((with_reducible refine gate_dst (N := 21) rfl ?_); refine Kd.R_lit k23 _ 23 ?hg (N := 21) ?hd (xs := ([(⟨a1_0, a1_1⟩ : S23), (⟨a2_0, a2_1⟩ : S23)] : List (S23))) (inner := [.int .i64 a1_0, .int .i64 a1_1, .int .i64 a2_0, .int .i64 a2_1]) (ok := fun _ => True) (okp := fun _ => True) ?hr ?hp (fun _ hk => hk) trivial (Below.refl _ _) (Nat.le_refl _) (by simp) ?_; (case hd => rfl); (case hg => rfl); (case hr => first | (go_simp; done) | (go_simp; rfl)); (case hp => exact (Reps.c2 (show Kd.M k23 _ _ _ (⟨a1_0, a1_1⟩ : S23) [.int .i64 a1_0, .int .i64 a1_1] from (k23_mkM _ _ _ (⟨a1_0, a1_1⟩ : S23) )) (Reps.c2 (show Kd.M k23 _ _ _ (⟨a2_0, a2_1⟩ : S23) [.int .i64 a2_0, .int .i64 a2_1] from (k23_mkM _ _ _ (⟨a2_0, a2_1⟩ : S23) )) (Reps.none _ _)))); intro v406 w56 ho57 hb hg_ hnew_; clear hg_ hnew_; (first | rw [← Ny405.out] at ho57 | (simp only [Int.reduceToNat] at ho57; rw [← Ny405.out] at ho57)); have HO407 := Aside0.mk (Kd.R_lower (Kd.R_newB (Kd.R_newB (Kd.R_newB ho57 (g := gb402) (o := .cells #[.int .i64 a1_0, .int .i64 a1_1] 23 (0, 0)) bkx) (g := gb403) (o := .cells #[.int .i64 a2_0, .int .i64 a2_1] 23 (0, 0)) bkx) (g := gb404) (o := .cells #[.int .i64 0, .int .i64 0] 23 (0, 0)) bkx) (below_size blx)); replace BK402 := bkq BK402 hb; replace BK403 := bkq BK403 hb; replace BK404 := bkq BK404 hb; replace HB := Aside0.mk (below_step blx hb); clear hb ho57; obtain ⟨Ao58, co58, eo58⟩ := Kd.R_slice HO407.out; subst eo58) | ((with_reducible refine gate_callee (f := 61) rfl ?_); refine goesL_ (some 22) rfl rfl Tryd.func61 (by kernel_rfl) rfl #[.int .i64 x7_8, .slice Ao58 y405.length co58] rfl agx ?_; (with_reducible refine (money_alike.calls kj8 x7_8 _ _ y405 t408 t409 true _ ?side1 ?side2 A11.out (by first | exact HG0.out | exact Kd.C_below HG0.out blx)).mono ?_); (case side1 => exact crx HO407); (case side2 => exact (Kd.R_reads' HO407.out).2.1); rintro e w59 ⟨rfl, hb⟩; refine ⟨_, rfl, ?_⟩; replace HO407 := hoq HO407 hb; replace BK402 := bkq BK402 hb; replace BK403 := bkq BK403 hb; replace BK404 := bkq BK404 hb; replace HB := Aside0.mk (below_step blx hb); (try clear hb); (try clear hb2); (try clear hk); (try clear hi)) | ((with_reducible refine gate_dst (N := 8) rfl ?_); refine bxe (N := 8) (cs := #[.int .i64 0, .int .i64 0]) (t := 23) ?_; intro gb411 hg w60 hbox hb; replace HO407 := Aside0.mk (Kd.R_below (Kd.R_elderB (by (with_reducible repeat (first | apply Kd.R_alloc | apply Kd.R_drewN | apply Kd.R_drew)); exact HO407.out) gb411 (Nat.le_of_eq hg.symm)) hb); have BK411 := Aside0.mk (hbox); have GW411 : Aside0 (w.heap.size ≤ gb411) := gwx hg; have GE411 : Aside0 (w.heap.size ≤ gb411) := gwx hg; replace HB := Aside0.mk (below_step blx hb); have NB402_411 := nbl BK402 hg; have NB411_402 := nbg BK402 hg; replace BK402 := bkq BK402 hb; have NB403_411 := nbl BK403 hg; have NB411_403 := nbg BK403 hg; replace BK403 := bkq BK403 hb; have NB404_411 := nbl BK404 hg; have NB411_404 := nbg BK404 hg; replace BK404 := bkq BK404 hb; clear hb hbox hg; have hnb61 := NB411_402.out; have hnc61 := NB402_411.out; have hnb62 := NB411_403.out; have hnc62 := NB403_411.out; have hnb63 := NB411_404.out; have hnc63 := NB404_411.out; obtain ⟨hcz64_0, hcz64_1, hfz64_0, hfz64_1⟩ := c2_ BK411; obtain ⟨hcz65_0, hcz65_1, hfz65_0, hfz65_1⟩ := c2_ BK402; obtain ⟨hcz66_0, hcz66_1, hfz66_0, hfz66_1⟩ := c2_ BK403; obtain ⟨hcz67_0, hcz67_1, hfz67_0, hfz67_1⟩ := c2_ BK404))
         refine bodyPost_ret (results_cell_row rfl _ _ gb404 23 #[.int .i64 3, .int .i64 0] (0, 0) _ rfl (by (with_reducible repeat (first | refine blk_drewN ?_ _ | refine blk_drew ?_ | refine blk_alloc ?_ _)); refine blk_put (cs := #[.int .i64 3, .int .i64 0]) ?_ 1 _ rfl; (with_reducible repeat (first | refine blk_drewN ?_ _ | refine blk_drew ?_ | refine blk_alloc ?_ _)); refine blk_put (cs := #[.int .i64 0, .int .i64 0]) ?_ 0 _ rfl; (with_reducible repeat (first | refine blk_drewN ?_ _ | refine blk_drew ?_ | refine blk_alloc ?_ _)); refine blk_far ?_ NB404_411.out _; (with_reducible repeat (first | refine blk_drewN ?_ _ | refine blk_drew ?_ | refine blk_alloc ?_ _)); refine blk_far ?_ NB404_411.out _; (with_reducible repeat (first | refine blk_drewN ?_ _ | refine blk_drew ?_ | refine blk_alloc ?_ _)); exact BK404.out) Tryd.underlying23 rfl (by kernel_rfl)) rfl ?_
         exact ⟨by first | rfl | (simp [errW_none, errW_some] <;> rfl) | (simp [*, errW_none, errW_some] <;> rfl), blx⟩
        ·rw [if_neg c50] at H
         have c50b0 : (a1_1 == a2_1) = false := beq_eq_false_iff_ne.mpr c50
         have c50b1 : (a1_1 != a2_1) = true := bne_iff_ne.mpr c50
         simp only [Option.some.injEq, Prod.mk.injEq] at H
         obtain ⟨rfl, rfl⟩ := H
         have hnb68 := NB402_403.out
         have hnc68 := NB403_402.out
         have hnb69 := NB402_404.out
         have hnc69 := NB404_402.out
         obtain ⟨hcz70_0, hcz70_1, hfz70_0, hfz70_1⟩ := c2_ BK402
         have hnb71 := NB403_404.out
         have hnc71 := NB404_403.out
         obtain ⟨hcz72_0, hcz72_1, hfz72_0, hfz72_1⟩ := c2_ BK403
         go_wp2_with (first | ((with_reducible refine gate_dst (N := 21) rfl ?_); refine Kd.R_lit k23 _ 23 ?hg (N := 21) ?hd (xs := ([(⟨a1_0, a1_1⟩ : S23), (⟨a2_0, a2_1⟩ : S23)] : List (S23))) (inner := [.int .i64 a1_0, .int .i64 a1_1, .int .i64 a2_0, .int .i64 a2_1]) (ok := fun _ => True) (okp := fun _ => True) ?hr ?hp (fun _ hk => hk) trivial (Below.refl _ _) (Nat.le_refl _) (by simp) ?_; (case hd => rfl); (case hg => rfl); (case hr => first | (go_simp; done) | (go_simp; rfl)); (case hp => exact (Reps.c2 (show Kd.M k23 _ _ _ (⟨a1_0, a1_1⟩ : S23) [.int .i64 a1_0, .int .i64 a1_1] from (k23_mkM _ _ _ (⟨a1_0, a1_1⟩ : S23) )) (Reps.c2 (show Kd.M k23 _ _ _ (⟨a2_0, a2_1⟩ : S23) [.int .i64 a2_0, .int .i64 a2_1] from (k23_mkM _ _ _ (⟨a2_0, a2_1⟩ : S23) )) (Reps.none _ _)))); intro v406 w73 ho74 hb hg_ hnew_; clear hg_ hnew_; (first | rw [← Ny405.out] at ho74 | (simp only [Int.reduceToNat] at ho74; rw [← Ny405.out] at ho74)); have HO407 := Aside0.mk (Kd.R_lower (Kd.R_newB (Kd.R_newB (Kd.R_newB ho74 (g := gb402) (o := .cells #[.int .i64 a1_0, .int .i64 a1_1] 23 (0, 0)) bkx) (g := gb403) (o := .cells #[.int .i64 a2_0, .int .i64 a2_1] 23 (0, 0)) bkx) (g := gb404) (o := .cells #[.int .i64 0, .int .i64 0] 23 (0, 0)) bkx) (below_size blx)); replace BK402 := bkq BK402 hb; replace BK403 := bkq BK403 hb; replace BK404 := bkq BK404 hb; replace HB := Aside0.mk (below_step blx hb); clear hb ho74; obtain ⟨Ao75, co75, eo75⟩ := Kd.R_slice HO407.out; subst eo75) | ((with_reducible refine gate_callee (f := 61) rfl ?_); refine goesL_ (some 22) rfl rfl Tryd.func61 (by kernel_rfl) rfl #[.int .i64 x7_8, .slice Ao75 y405.length co75] rfl agx ?_; (with_reducible refine (money_alike.calls kj8 x7_8 _ _ y405 t408 t409 true _ ?side1 ?side2 A11.out (by first | exact HG0.out | exact Kd.C_below HG0.out blx)).mono ?_); (case side1 => exact crx HO407); (case side2 => exact (Kd.R_reads' HO407.out).2.1); rintro e w76 ⟨rfl, hb⟩; refine ⟨_, rfl, ?_⟩; replace HO407 := hoq HO407 hb; replace BK402 := bkq BK402 hb; replace BK403 := bkq BK403 hb; replace BK404 := bkq BK404 hb; replace HB := Aside0.mk (below_step blx hb); (try clear hb); (try clear hb2); (try clear hk); (try clear hi)) | ((with_reducible refine gate_dst (N := 8) rfl ?_); refine bxe (N := 8) (cs := #[.int .i64 0, .int .i64 0]) (t := 23) ?_; intro gb411 hg w77 hbox hb; replace HO407 := Aside0.mk (Kd.R_below (Kd.R_elderB (by (with_reducible repeat (first | apply Kd.R_alloc | apply Kd.R_drewN | apply Kd.R_drew)); exact HO407.out) gb411 (Nat.le_of_eq hg.symm)) hb); have BK411 := Aside0.mk (hbox); have GW411 : Aside0 (w.heap.size ≤ gb411) := gwx hg; have GE411 : Aside0 (w.heap.size ≤ gb411) := gwx hg; replace HB := Aside0.mk (below_step blx hb); have NB402_411 := nbl BK402 hg; have NB411_402 := nbg BK402 hg; replace BK402 := bkq BK402 hb; have NB403_411 := nbl BK403 hg; have NB411_403 := nbg BK403 hg; replace BK403 := bkq BK403 hb; have NB404_411 := nbl BK404 hg; have NB411_404 := nbg BK404 hg; replace BK404 := bkq BK404 hb; clear hb hbox hg; have hnb78 := NB411_402.out; have hnc78 := NB402_411.out; have hnb79 := NB411_403.out; have hnc79 := NB403_411.out; have hnb80 := NB411_404.out; have hnc80 := NB404_411.out; obtain ⟨hcz81_0, hcz81_1, hfz81_0, hfz81_1⟩ := c2_ BK411; obtain ⟨hcz82_0, hcz82_1, hfz82_0, hfz82_1⟩ := c2_ BK402; obtain ⟨hcz83_0, hcz83_1, hfz83_0, hfz83_1⟩ := c2_ BK403; obtain ⟨hcz84_0, hcz84_1, hfz84_0, hfz84_1⟩ := c2_ BK404))
         refine bodyPost_ret (results_cell_row rfl _ _ gb404 23 #[.int .i64 3, .int .i64 1] (0, 0) _ rfl (by (with_reducible repeat (first | refine blk_drewN ?_ _ | refine blk_drew ?_ | refine blk_alloc ?_ _)); refine blk_put (cs := #[.int .i64 3, .int .i64 0]) ?_ 1 _ rfl; (with_reducible repeat (first | refine blk_drewN ?_ _ | refine blk_drew ?_ | refine blk_alloc ?_ _)); refine blk_put (cs := #[.int .i64 0, .int .i64 0]) ?_ 0 _ rfl; (with_reducible repeat (first | refine blk_drewN ?_ _ | refine blk_drew ?_ | refine blk_alloc ?_ _)); refine blk_far ?_ NB404_411.out _; (with_reducible repeat (first | refine blk_drewN ?_ _ | refine blk_drew ?_ | refine blk_alloc ?_ _)); refine blk_far ?_ NB404_411.out _; (with_reducible repeat (first | refine blk_drewN ?_ _ | refine blk_drew ?_ | refine blk_alloc ?_ _)); exact BK404.out) Tryd.underlying23 rfl (by kernel_rfl)) rfl ?_
         exact ⟨by first | rfl | (simp [errW_none, errW_some] <;> rfl) | (simp [*, errW_none, errW_some] <;> rfl), blx⟩
       ·rw [if_neg c49] at H
        have c49b0 : (a0 == 26) = false := beq_eq_false_iff_ne.mpr c49
        have c49b1 : (a0 != 26) = true := bne_iff_ne.mpr c49
        by_cases c85 : a0 = 27
        ·rw [if_pos c85] at H
         have c85b0 : (a0 == 27) = true := beq_iff_eq.mpr c85
         have c85b1 : (a0 != 27) = false := bne_eq_false_iff_eq.mpr c85
         clear c85
         by_cases c86 : a1_1 < a2_1
         ·rw [if_pos c86] at H
          have c86b0 : decide (a1_1 < a2_1) = true := decide_eq_true c86
          clear c86
          simp only [Option.some.injEq, Prod.mk.injEq] at H
          obtain ⟨rfl, rfl⟩ := H
          have hnb87 := NB402_403.out
          have hnc87 := NB403_402.out
          have hnb88 := NB402_404.out
          have hnc88 := NB404_402.out
          obtain ⟨hcz89_0, hcz89_1, hfz89_0, hfz89_1⟩ := c2_ BK402
          have hnb90 := NB403_404.out
          have hnc90 := NB404_403.out
          obtain ⟨hcz91_0, hcz91_1, hfz91_0, hfz91_1⟩ := c2_ BK403
          go_wp2_with (first | ((with_reducible refine gate_dst (N := 21) rfl ?_); refine Kd.R_lit k23 _ 23 ?hg (N := 21) ?hd (xs := ([(⟨a1_0, a1_1⟩ : S23), (⟨a2_0, a2_1⟩ : S23)] : List (S23))) (inner := [.int .i64 a1_0, .int .i64 a1_1, .int .i64 a2_0, .int .i64 a2_1]) (ok := fun _ => True) (okp := fun _ => True) ?hr ?hp (fun _ hk => hk) trivial (Below.refl _ _) (Nat.le_refl _) (by simp) ?_; (case hd => rfl); (case hg => rfl); (case hr => first | (go_simp; done) | (go_simp; rfl)); (case hp => exact (Reps.c2 (show Kd.M k23 _ _ _ (⟨a1_0, a1_1⟩ : S23) [.int .i64 a1_0, .int .i64 a1_1] from (k23_mkM _ _ _ (⟨a1_0, a1_1⟩ : S23) )) (Reps.c2 (show Kd.M k23 _ _ _ (⟨a2_0, a2_1⟩ : S23) [.int .i64 a2_0, .int .i64 a2_1] from (k23_mkM _ _ _ (⟨a2_0, a2_1⟩ : S23) )) (Reps.none _ _)))); intro v406 w92 ho93 hb hg_ hnew_; clear hg_ hnew_; (first | rw [← Ny405.out] at ho93 | (simp only [Int.reduceToNat] at ho93; rw [← Ny405.out] at ho93)); have HO407 := Aside0.mk (Kd.R_lower (Kd.R_newB (Kd.R_newB (Kd.R_newB ho93 (g := gb402) (o := .cells #[.int .i64 a1_0, .int .i64 a1_1] 23 (0, 0)) bkx) (g := gb403) (o := .cells #[.int .i64 a2_0, .int .i64 a2_1] 23 (0, 0)) bkx) (g := gb404) (o := .cells #[.int .i64 0, .int .i64 0] 23 (0, 0)) bkx) (below_size blx)); replace BK402 := bkq BK402 hb; replace BK403 := bkq BK403 hb; replace BK404 := bkq BK404 hb; replace HB := Aside0.mk (below_step blx hb); clear hb ho93; obtain ⟨Ao94, co94, eo94⟩ := Kd.R_slice HO407.out; subst eo94) | ((with_reducible refine gate_callee (f := 61) rfl ?_); refine goesL_ (some 22) rfl rfl Tryd.func61 (by kernel_rfl) rfl #[.int .i64 x7_8, .slice Ao94 y405.length co94] rfl agx ?_; (with_reducible refine (money_alike.calls kj8 x7_8 _ _ y405 t408 t409 true _ ?side1 ?side2 A11.out (by first | exact HG0.out | exact Kd.C_below HG0.out blx)).mono ?_); (case side1 => exact crx HO407); (case side2 => exact (Kd.R_reads' HO407.out).2.1); rintro e w95 ⟨rfl, hb⟩; refine ⟨_, rfl, ?_⟩; replace HO407 := hoq HO407 hb; replace BK402 := bkq BK402 hb; replace BK403 := bkq BK403 hb; replace BK404 := bkq BK404 hb; replace HB := Aside0.mk (below_step blx hb); (try clear hb); (try clear hb2); (try clear hk); (try clear hi)) | ((with_reducible refine gate_dst (N := 8) rfl ?_); refine bxe (N := 8) (cs := #[.int .i64 0, .int .i64 0]) (t := 23) ?_; intro gb411 hg w96 hbox hb; replace HO407 := Aside0.mk (Kd.R_below (Kd.R_elderB (by (with_reducible repeat (first | apply Kd.R_alloc | apply Kd.R_drewN | apply Kd.R_drew)); exact HO407.out) gb411 (Nat.le_of_eq hg.symm)) hb); have BK411 := Aside0.mk (hbox); have GW411 : Aside0 (w.heap.size ≤ gb411) := gwx hg; have GE411 : Aside0 (w.heap.size ≤ gb411) := gwx hg; replace HB := Aside0.mk (below_step blx hb); have NB402_411 := nbl BK402 hg; have NB411_402 := nbg BK402 hg; replace BK402 := bkq BK402 hb; have NB403_411 := nbl BK403 hg; have NB411_403 := nbg BK403 hg; replace BK403 := bkq BK403 hb; have NB404_411 := nbl BK404 hg; have NB411_404 := nbg BK404 hg; replace BK404 := bkq BK404 hb; clear hb hbox hg; have hnb97 := NB411_402.out; have hnc97 := NB402_411.out; have hnb98 := NB411_403.out; have hnc98 := NB403_411.out; have hnb99 := NB411_404.out; have hnc99 := NB404_411.out; obtain ⟨hcz100_0, hcz100_1, hfz100_0, hfz100_1⟩ := c2_ BK411; obtain ⟨hcz101_0, hcz101_1, hfz101_0, hfz101_1⟩ := c2_ BK402; obtain ⟨hcz102_0, hcz102_1, hfz102_0, hfz102_1⟩ := c2_ BK403; obtain ⟨hcz103_0, hcz103_1, hfz103_0, hfz103_1⟩ := c2_ BK404))
          refine bodyPost_ret (results_cell_row rfl _ _ gb404 23 #[.int .i64 3, .int .i64 1] (0, 0) _ rfl (by (with_reducible repeat (first | refine blk_drewN ?_ _ | refine blk_drew ?_ | refine blk_alloc ?_ _)); refine blk_put (cs := #[.int .i64 3, .int .i64 0]) ?_ 1 _ rfl; (with_reducible repeat (first | refine blk_drewN ?_ _ | refine blk_drew ?_ | refine blk_alloc ?_ _)); refine blk_put (cs := #[.int .i64 0, .int .i64 0]) ?_ 0 _ rfl; (with_reducible repeat (first | refine blk_drewN ?_ _ | refine blk_drew ?_ | refine blk_alloc ?_ _)); refine blk_far ?_ NB404_411.out _; (with_reducible repeat (first | refine blk_drewN ?_ _ | refine blk_drew ?_ | refine blk_alloc ?_ _)); refine blk_far ?_ NB404_411.out _; (with_reducible repeat (first | refine blk_drewN ?_ _ | refine blk_drew ?_ | refine blk_alloc ?_ _)); exact BK404.out) Tryd.underlying23 rfl (by kernel_rfl)) rfl ?_
          exact ⟨by first | rfl | (simp [errW_none, errW_some] <;> rfl) | (simp [*, errW_none, errW_some] <;> rfl), blx⟩
         ·rw [if_neg c86] at H
          have c86b0 : decide (a1_1 < a2_1) = false := decide_eq_false c86
          clear c86
          simp only [Option.some.injEq, Prod.mk.injEq] at H
          obtain ⟨rfl, rfl⟩ := H
          have hnb104 := NB402_403.out
          have hnc104 := NB403_402.out
          have hnb105 := NB402_404.out
          have hnc105 := NB404_402.out
          obtain ⟨hcz106_0, hcz106_1, hfz106_0, hfz106_1⟩ := c2_ BK402
          have hnb107 := NB403_404.out
          have hnc107 := NB404_403.out
          obtain ⟨hcz108_0, hcz108_1, hfz108_0, hfz108_1⟩ := c2_ BK403
          go_wp2_with (first | ((with_reducible refine gate_dst (N := 21) rfl ?_); refine Kd.R_lit k23 _ 23 ?hg (N := 21) ?hd (xs := ([(⟨a1_0, a1_1⟩ : S23), (⟨a2_0, a2_1⟩ : S23)] : List (S23))) (inner := [.int .i64 a1_0, .int .i64 a1_1, .int .i64 a2_0, .int .i64 a2_1]) (ok := fun _ => True) (okp := fun _ => True) ?hr ?hp (fun _ hk => hk) trivial (Below.refl _ _) (Nat.le_refl _) (by simp) ?_; (case hd => rfl); (case hg => rfl); (case hr => first | (go_simp; done) | (go_simp; rfl)); (case hp => exact (Reps.c2 (show Kd.M k23 _ _ _ (⟨a1_0, a1_1⟩ : S23) [.int .i64 a1_0, .int .i64 a1_1] from (k23_mkM _ _ _ (⟨a1_0, a1_1⟩ : S23) )) (Reps.c2 (show Kd.M k23 _ _ _ (⟨a2_0, a2_1⟩ : S23) [.int .i64 a2_0, .int .i64 a2_1] from (k23_mkM _ _ _ (⟨a2_0, a2_1⟩ : S23) )) (Reps.none _ _)))); intro v406 w109 ho110 hb hg_ hnew_; clear hg_ hnew_; (first | rw [← Ny405.out] at ho110 | (simp only [Int.reduceToNat] at ho110; rw [← Ny405.out] at ho110)); have HO407 := Aside0.mk (Kd.R_lower (Kd.R_newB (Kd.R_newB (Kd.R_newB ho110 (g := gb402) (o := .cells #[.int .i64 a1_0, .int .i64 a1_1] 23 (0, 0)) bkx) (g := gb403) (o := .cells #[.int .i64 a2_0, .int .i64 a2_1] 23 (0, 0)) bkx) (g := gb404) (o := .cells #[.int .i64 0, .int .i64 0] 23 (0, 0)) bkx) (below_size blx)); replace BK402 := bkq BK402 hb; replace BK403 := bkq BK403 hb; replace BK404 := bkq BK404 hb; replace HB := Aside0.mk (below_step blx hb); clear hb ho110; obtain ⟨Ao111, co111, eo111⟩ := Kd.R_slice HO407.out; subst eo111) | ((with_reducible refine gate_callee (f := 61) rfl ?_); refine goesL_ (some 22) rfl rfl Tryd.func61 (by kernel_rfl) rfl #[.int .i64 x7_8, .slice Ao111 y405.length co111] rfl agx ?_; (with_reducible refine (money_alike.calls kj8 x7_8 _ _ y405 t408 t409 true _ ?side1 ?side2 A11.out (by first | exact HG0.out | exact Kd.C_below HG0.out blx)).mono ?_); (case side1 => exact crx HO407); (case side2 => exact (Kd.R_reads' HO407.out).2.1); rintro e w112 ⟨rfl, hb⟩; refine ⟨_, rfl, ?_⟩; replace HO407 := hoq HO407 hb; replace BK402 := bkq BK402 hb; replace BK403 := bkq BK403 hb; replace BK404 := bkq BK404 hb; replace HB := Aside0.mk (below_step blx hb); (try clear hb); (try clear hb2); (try clear hk); (try clear hi)) | ((with_reducible refine gate_dst (N := 8) rfl ?_); refine bxe (N := 8) (cs := #[.int .i64 0, .int .i64 0]) (t := 23) ?_; intro gb411 hg w113 hbox hb; replace HO407 := Aside0.mk (Kd.R_below (Kd.R_elderB (by (with_reducible repeat (first | apply Kd.R_alloc | apply Kd.R_drewN | apply Kd.R_drew)); exact HO407.out) gb411 (Nat.le_of_eq hg.symm)) hb); have BK411 := Aside0.mk (hbox); have GW411 : Aside0 (w.heap.size ≤ gb411) := gwx hg; have GE411 : Aside0 (w.heap.size ≤ gb411) := gwx hg; replace HB := Aside0.mk (below_step blx hb); have NB402_411 := nbl BK402 hg; have NB411_402 := nbg BK402 hg; replace BK402 := bkq BK402 hb; have NB403_411 := nbl BK403 hg; have NB411_403 := nbg BK403 hg; replace BK403 := bkq BK403 hb; have NB404_411 := nbl BK404 hg; have NB411_404 := nbg BK404 hg; replace BK404 := bkq BK404 hb; clear hb hbox hg; have hnb114 := NB411_402.out; have hnc114 := NB402_411.out; have hnb115 := NB411_403.out; have hnc115 := NB403_411.out; have hnb116 := NB411_404.out; have hnc116 := NB404_411.out; obtain ⟨hcz117_0, hcz117_1, hfz117_0, hfz117_1⟩ := c2_ BK411; obtain ⟨hcz118_0, hcz118_1, hfz118_0, hfz118_1⟩ := c2_ BK402; obtain ⟨hcz119_0, hcz119_1, hfz119_0, hfz119_1⟩ := c2_ BK403; obtain ⟨hcz120_0, hcz120_1, hfz120_0, hfz120_1⟩ := c2_ BK404))
          refine bodyPost_ret (results_cell_row rfl _ _ gb404 23 #[.int .i64 3, .int .i64 0] (0, 0) _ rfl (by (with_reducible repeat (first | refine blk_drewN ?_ _ | refine blk_drew ?_ | refine blk_alloc ?_ _)); refine blk_put (cs := #[.int .i64 3, .int .i64 0]) ?_ 1 _ rfl; (with_reducible repeat (first | refine blk_drewN ?_ _ | refine blk_drew ?_ | refine blk_alloc ?_ _)); refine blk_put (cs := #[.int .i64 0, .int .i64 0]) ?_ 0 _ rfl; (with_reducible repeat (first | refine blk_drewN ?_ _ | refine blk_drew ?_ | refine blk_alloc ?_ _)); refine blk_far ?_ NB404_411.out _; (with_reducible repeat (first | refine blk_drewN ?_ _ | refine blk_drew ?_ | refine blk_alloc ?_ _)); refine blk_far ?_ NB404_411.out _; (with_reducible repeat (first | refine blk_drewN ?_ _ | refine blk_drew ?_ | refine blk_alloc ?_ _)); exact BK404.out) Tryd.underlying23 rfl (by kernel_rfl)) rfl ?_
          exact ⟨by first | rfl | (simp [errW_none, errW_some] <;> rfl) | (simp [*, errW_none, errW_some] <;> rfl), blx⟩
        ·rw [if_neg c85] at H
         have c85b0 : (a0 == 27) = false := beq_eq_false_iff_ne.mpr c85
         have c85b1 : (a0 != 27) = true := bne_iff_ne.mpr c85
         by_cases c121 : a0 = 28
         ·rw [if_pos c121] at H
          have c121b0 : (a0 == 28) = true := beq_iff_eq.mpr c121
          have c121b1 : (a0 != 28) = false := bne_eq_false_iff_eq.mpr c121
          clear c121
          by_cases c122 : a1_1 ≤ a2_1
          ·rw [if_pos c122] at H
           have c122b0 : decide (a1_1 ≤ a2_1) = true := decide_eq_true c122
           clear c122
           simp only [Option.some.injEq, Prod.mk.injEq] at H
           obtain ⟨rfl, rfl⟩ := H
           have hnb123 := NB402_403.out
           have hnc123 := NB403_402.out
           have hnb124 := NB402_404.out
           have hnc124 := NB404_402.out
           obtain ⟨hcz125_0, hcz125_1, hfz125_0, hfz125_1⟩ := c2_ BK402
           have hnb126 := NB403_404.out
           have hnc126 := NB404_403.out
           obtain ⟨hcz127_0, hcz127_1, hfz127_0, hfz127_1⟩ := c2_ BK403
           go_wp2_with (first | ((with_reducible refine gate_dst (N := 21) rfl ?_); refine Kd.R_lit k23 _ 23 ?hg (N := 21) ?hd (xs := ([(⟨a1_0, a1_1⟩ : S23), (⟨a2_0, a2_1⟩ : S23)] : List (S23))) (inner := [.int .i64 a1_0, .int .i64 a1_1, .int .i64 a2_0, .int .i64 a2_1]) (ok := fun _ => True) (okp := fun _ => True) ?hr ?hp (fun _ hk => hk) trivial (Below.refl _ _) (Nat.le_refl _) (by simp) ?_; (case hd => rfl); (case hg => rfl); (case hr => first | (go_simp; done) | (go_simp; rfl)); (case hp => exact (Reps.c2 (show Kd.M k23 _ _ _ (⟨a1_0, a1_1⟩ : S23) [.int .i64 a1_0, .int .i64 a1_1] from (k23_mkM _ _ _ (⟨a1_0, a1_1⟩ : S23) )) (Reps.c2 (show Kd.M k23 _ _ _ (⟨a2_0, a2_1⟩ : S23) [.int .i64 a2_0, .int .i64 a2_1] from (k23_mkM _ _ _ (⟨a2_0, a2_1⟩ : S23) )) (Reps.none _ _)))); intro v406 w128 ho129 hb hg_ hnew_; clear hg_ hnew_; (first | rw [← Ny405.out] at ho129 | (simp only [Int.reduceToNat] at ho129; rw [← Ny405.out] at ho129)); have HO407 := Aside0.mk (Kd.R_lower (Kd.R_newB (Kd.R_newB (Kd.R_newB ho129 (g := gb402) (o := .cells #[.int .i64 a1_0, .int .i64 a1_1] 23 (0, 0)) bkx) (g := gb403) (o := .cells #[.int .i64 a2_0, .int .i64 a2_1] 23 (0, 0)) bkx) (g := gb404) (o := .cells #[.int .i64 0, .int .i64 0] 23 (0, 0)) bkx) (below_size blx)); replace BK402 := bkq BK402 hb; replace BK403 := bkq BK403 hb; replace BK404 := bkq BK404 hb; replace HB := Aside0.mk (below_step blx hb); clear hb ho129; obtain ⟨Ao130, co130, eo130⟩ := Kd.R_slice HO407.out; subst eo130) | ((with_reducible refine gate_callee (f := 61) rfl ?_); refine goesL_ (some 22) rfl rfl Tryd.func61 (by kernel_rfl) rfl #[.int .i64 x7_8, .slice Ao130 y405.length co130] rfl agx ?_; (with_reducible refine (money_alike.calls kj8 x7_8 _ _ y405 t408 t409 true _ ?side1 ?side2 A11.out (by first | exact HG0.out | exact Kd.C_below HG0.out blx)).mono ?_); (case side1 => exact crx HO407); (case side2 => exact (Kd.R_reads' HO407.out).2.1); rintro e w131 ⟨rfl, hb⟩; refine ⟨_, rfl, ?_⟩; replace HO407 := hoq HO407 hb; replace BK402 := bkq BK402 hb; replace BK403 := bkq BK403 hb; replace BK404 := bkq BK404 hb; replace HB := Aside0.mk (below_step blx hb); (try clear hb); (try clear hb2); (try clear hk); (try clear hi)) | ((with_reducible refine gate_dst (N := 8) rfl ?_); refine bxe (N := 8) (cs := #[.int .i64 0, .int .i64 0]) (t := 23) ?_; intro gb411 hg w132 hbox hb; replace HO407 := Aside0.mk (Kd.R_below (Kd.R_elderB (by (with_reducible repeat (first | apply Kd.R_alloc | apply Kd.R_drewN | apply Kd.R_drew)); exact HO407.out) gb411 (Nat.le_of_eq hg.symm)) hb); have BK411 := Aside0.mk (hbox); have GW411 : Aside0 (w.heap.size ≤ gb411) := gwx hg; have GE411 : Aside0 (w.heap.size ≤ gb411) := gwx hg; replace HB := Aside0.mk (below_step blx hb); have NB402_411 := nbl BK402 hg; have NB411_402 := nbg BK402 hg; replace BK402 := bkq BK402 hb; have NB403_411 := nbl BK403 hg; have NB411_403 := nbg BK403 hg; replace BK403 := bkq BK403 hb; have NB404_411 := nbl BK404 hg; have NB411_404 := nbg BK404 hg; replace BK404 := bkq BK404 hb; clear hb hbox hg; have hnb133 := NB411_402.out; have hnc133 := NB402_411.out; have hnb134 := NB411_403.out; have hnc134 := NB403_411.out; have hnb135 := NB411_404.out; have hnc135 := NB404_411.out; obtain ⟨hcz136_0, hcz136_1, hfz136_0, hfz136_1⟩ := c2_ BK411; obtain ⟨hcz137_0, hcz137_1, hfz137_0, hfz137_1⟩ := c2_ BK402; obtain ⟨hcz138_0, hcz138_1, hfz138_0, hfz138_1⟩ := c2_ BK403; obtain ⟨hcz139_0, hcz139_1, hfz139_0, hfz139_1⟩ := c2_ BK404))
           refine bodyPost_ret (results_cell_row rfl _ _ gb404 23 #[.int .i64 3, .int .i64 1] (0, 0) _ rfl (by (with_reducible repeat (first | refine blk_drewN ?_ _ | refine blk_drew ?_ | refine blk_alloc ?_ _)); refine blk_put (cs := #[.int .i64 3, .int .i64 0]) ?_ 1 _ rfl; (with_reducible repeat (first | refine blk_drewN ?_ _ | refine blk_drew ?_ | refine blk_alloc ?_ _)); refine blk_put (cs := #[.int .i64 0, .int .i64 0]) ?_ 0 _ rfl; (with_reducible repeat (first | refine blk_drewN ?_ _ | refine blk_drew ?_ | refine blk_alloc ?_ _)); refine blk_far ?_ NB404_411.out _; (with_reducible repeat (first | refine blk_drewN ?_ _ | refine blk_drew ?_ | refine blk_alloc ?_ _)); refine blk_far ?_ NB404_411.out _; (with_reducible repeat (first | refine blk_drewN ?_ _ | refine blk_drew ?_ | refine blk_alloc ?_ _)); exact BK404.out) Tryd.underlying23 rfl (by kernel_rfl)) rfl ?_
           exact ⟨by first | rfl | (simp [errW_none, errW_some] <;> rfl) | (simp [*, errW_none, errW_some] <;> rfl), blx⟩
          ·rw [if_neg c122] at H
           have c122b0 : decide (a1_1 ≤ a2_1) = false := decide_eq_false c122
           clear c122
           simp only [Option.some.injEq, Prod.mk.injEq] at H
           obtain ⟨rfl, rfl⟩ := H
           have hnb140 := NB402_403.out
           have hnc140 := NB403_402.out
           have hnb141 := NB402_404.out
           have hnc141 := NB404_402.out
           obtain ⟨hcz142_0, hcz142_1, hfz142_0, hfz142_1⟩ := c2_ BK402
           have hnb143 := NB403_404.out
           have hnc143 := NB404_403.out
           obtain ⟨hcz144_0, hcz144_1, hfz144_0, hfz144_1⟩ := c2_ BK403
           go_wp2_with (first | ((with_reducible refine gate_dst (N := 21) rfl ?_); refine Kd.R_lit k23 _ 23 ?hg (N := 21) ?hd (xs := ([(⟨a1_0, a1_1⟩ : S23), (⟨a2_0, a2_1⟩ : S23)] : List (S23))) (inner := [.int .i64 a1_0, .int .i64 a1_1, .int .i64 a2_0, .int .i64 a2_1]) (ok := fun _ => True) (okp := fun _ => True) ?hr ?hp (fun _ hk => hk) trivial (Below.refl _ _) (Nat.le_refl _) (by simp) ?_; (case hd => rfl); (case hg => rfl); (case hr => first | (go_simp; done) | (go_simp; rfl)); (case hp => exact (Reps.c2 (show Kd.M k23 _ _ _ (⟨a1_0, a1_1⟩ : S23) [.int .i64 a1_0, .int .i64 a1_1] from (k23_mkM _ _ _ (⟨a1_0, a1_1⟩ : S23) )) (Reps.c2 (show Kd.M k23 _ _ _ (⟨a2_0, a2_1⟩ : S23) [.int .i64 a2_0, .int .i64 a2_1] from (k23_mkM _ _ _ (⟨a2_0, a2_1⟩ : S23) )) (Reps.none _ _)))); intro v406 w145 ho146 hb hg_ hnew_; clear hg_ hnew_; (first | rw [← Ny405.out] at ho146 | (simp only [Int.reduceToNat] at ho146; rw [← Ny405.out] at ho146)); have HO407 := Aside0.mk (Kd.R_lower (Kd.R_newB (Kd.R_newB (Kd.R_newB ho146 (g := gb402) (o := .cells #[.int .i64 a1_0, .int .i64 a1_1] 23 (0, 0)) bkx) (g := gb403) (o := .cells #[.int .i64 a2_0, .int .i64 a2_1] 23 (0, 0)) bkx) (g := gb404) (o := .cells #[.int .i64 0, .int .i64 0] 23 (0, 0)) bkx) (below_size blx)); replace BK402 := bkq BK402 hb; replace BK403 := bkq BK403 hb; replace BK404 := bkq BK404 hb; replace HB := Aside0.mk (below_step blx hb); clear hb ho146; obtain ⟨Ao147, co147, eo147⟩ := Kd.R_slice HO407.out; subst eo147) | ((with_reducible refine gate_callee (f := 61) rfl ?_); refine goesL_ (some 22) rfl rfl Tryd.func61 (by kernel_rfl) rfl #[.int .i64 x7_8, .slice Ao147 y405.length co147] rfl agx ?_; (with_reducible refine (money_alike.calls kj8 x7_8 _ _ y405 t408 t409 true _ ?side1 ?side2 A11.out (by first | exact HG0.out | exact Kd.C_below HG0.out blx)).mono ?_); (case side1 => exact crx HO407); (case side2 => exact (Kd.R_reads' HO407.out).2.1); rintro e w148 ⟨rfl, hb⟩; refine ⟨_, rfl, ?_⟩; replace HO407 := hoq HO407 hb; replace BK402 := bkq BK402 hb; replace BK403 := bkq BK403 hb; replace BK404 := bkq BK404 hb; replace HB := Aside0.mk (below_step blx hb); (try clear hb); (try clear hb2); (try clear hk); (try clear hi)) | ((with_reducible refine gate_dst (N := 8) rfl ?_); refine bxe (N := 8) (cs := #[.int .i64 0, .int .i64 0]) (t := 23) ?_; intro gb411 hg w149 hbox hb; replace HO407 := Aside0.mk (Kd.R_below (Kd.R_elderB (by (with_reducible repeat (first | apply Kd.R_alloc | apply Kd.R_drewN | apply Kd.R_drew)); exact HO407.out) gb411 (Nat.le_of_eq hg.symm)) hb); have BK411 := Aside0.mk (hbox); have GW411 : Aside0 (w.heap.size ≤ gb411) := gwx hg; have GE411 : Aside0 (w.heap.size ≤ gb411) := gwx hg; replace HB := Aside0.mk (below_step blx hb); have NB402_411 := nbl BK402 hg; have NB411_402 := nbg BK402 hg; replace BK402 := bkq BK402 hb; have NB403_411 := nbl BK403 hg; have NB411_403 := nbg BK403 hg; replace BK403 := bkq BK403 hb; have NB404_411 := nbl BK404 hg; have NB411_404 := nbg BK404 hg; replace BK404 := bkq BK404 hb; clear hb hbox hg; have hnb150 := NB411_402.out; have hnc150 := NB402_411.out; have hnb151 := NB411_403.out; have hnc151 := NB403_411.out; have hnb152 := NB411_404.out; have hnc152 := NB404_411.out; obtain ⟨hcz153_0, hcz153_1, hfz153_0, hfz153_1⟩ := c2_ BK411; obtain ⟨hcz154_0, hcz154_1, hfz154_0, hfz154_1⟩ := c2_ BK402; obtain ⟨hcz155_0, hcz155_1, hfz155_0, hfz155_1⟩ := c2_ BK403; obtain ⟨hcz156_0, hcz156_1, hfz156_0, hfz156_1⟩ := c2_ BK404))
           refine bodyPost_ret (results_cell_row rfl _ _ gb404 23 #[.int .i64 3, .int .i64 0] (0, 0) _ rfl (by (with_reducible repeat (first | refine blk_drewN ?_ _ | refine blk_drew ?_ | refine blk_alloc ?_ _)); refine blk_put (cs := #[.int .i64 3, .int .i64 0]) ?_ 1 _ rfl; (with_reducible repeat (first | refine blk_drewN ?_ _ | refine blk_drew ?_ | refine blk_alloc ?_ _)); refine blk_put (cs := #[.int .i64 0, .int .i64 0]) ?_ 0 _ rfl; (with_reducible repeat (first | refine blk_drewN ?_ _ | refine blk_drew ?_ | refine blk_alloc ?_ _)); refine blk_far ?_ NB404_411.out _; (with_reducible repeat (first | refine blk_drewN ?_ _ | refine blk_drew ?_ | refine blk_alloc ?_ _)); refine blk_far ?_ NB404_411.out _; (with_reducible repeat (first | refine blk_drewN ?_ _ | refine blk_drew ?_ | refine blk_alloc ?_ _)); exact BK404.out) Tryd.underlying23 rfl (by kernel_rfl)) rfl ?_
           exact ⟨by first | rfl | (simp [errW_none, errW_some] <;> rfl) | (simp [*, errW_none, errW_some] <;> rfl), blx⟩
         ·rw [if_neg c121] at H
          have c121b0 : (a0 == 28) = false := beq_eq_false_iff_ne.mpr c121
          have c121b1 : (a0 != 28) = true := bne_iff_ne.mpr c121
          by_cases c157 : a0 = 29
          ·rw [if_pos c157] at H
           have c157b0 : (a0 == 29) = true := beq_iff_eq.mpr c157
           have c157b1 : (a0 != 29) = false := bne_eq_false_iff_eq.mpr c157
           clear c157
           by_cases c158 : a1_1 > a2_1
           ·rw [if_pos c158] at H
            have c158b0 : decide (a2_1 < a1_1) = true := decide_eq_true c158
            clear c158
            simp only [Option.some.injEq, Prod.mk.injEq] at H
            obtain ⟨rfl, rfl⟩ := H
            have hnb159 := NB402_403.out
            have hnc159 := NB403_402.out
            have hnb160 := NB402_404.out
            have hnc160 := NB404_402.out
            obtain ⟨hcz161_0, hcz161_1, hfz161_0, hfz161_1⟩ := c2_ BK402
            have hnb162 := NB403_404.out
            have hnc162 := NB404_403.out
            obtain ⟨hcz163_0, hcz163_1, hfz163_0, hfz163_1⟩ := c2_ BK403
            go_wp2_with (first | ((with_reducible refine gate_dst (N := 21) rfl ?_); refine Kd.R_lit k23 _ 23 ?hg (N := 21) ?hd (xs := ([(⟨a1_0, a1_1⟩ : S23), (⟨a2_0, a2_1⟩ : S23)] : List (S23))) (inner := [.int .i64 a1_0, .int .i64 a1_1, .int .i64 a2_0, .int .i64 a2_1]) (ok := fun _ => True) (okp := fun _ => True) ?hr ?hp (fun _ hk => hk) trivial (Below.refl _ _) (Nat.le_refl _) (by simp) ?_; (case hd => rfl); (case hg => rfl); (case hr => first | (go_simp; done) | (go_simp; rfl)); (case hp => exact (Reps.c2 (show Kd.M k23 _ _ _ (⟨a1_0, a1_1⟩ : S23) [.int .i64 a1_0, .int .i64 a1_1] from (k23_mkM _ _ _ (⟨a1_0, a1_1⟩ : S23) )) (Reps.c2 (show Kd.M k23 _ _ _ (⟨a2_0, a2_1⟩ : S23) [.int .i64 a2_0, .int .i64 a2_1] from (k23_mkM _ _ _ (⟨a2_0, a2_1⟩ : S23) )) (Reps.none _ _)))); intro v406 w164 ho165 hb hg_ hnew_; clear hg_ hnew_; (first | rw [← Ny405.out] at ho165 | (simp only [Int.reduceToNat] at ho165; rw [← Ny405.out] at ho165)); have HO407 := Aside0.mk (Kd.R_lower (Kd.R_newB (Kd.R_newB (Kd.R_newB ho165 (g := gb402) (o := .cells #[.int .i64 a1_0, .int .i64 a1_1] 23 (0, 0)) bkx) (g := gb403) (o := .cells #[.int .i64 a2_0, .int .i64 a2_1] 23 (0, 0)) bkx) (g := gb404) (o := .cells #[.int .i64 0, .int .i64 0] 23 (0, 0)) bkx) (below_size blx)); replace BK402 := bkq BK402 hb; replace BK403 := bkq BK403 hb; replace BK404 := bkq BK404 hb; replace HB := Aside0.mk (below_step blx hb); clear hb ho165; obtain ⟨Ao166, co166, eo166⟩ := Kd.R_slice HO407.out; subst eo166) | ((with_reducible refine gate_callee (f := 61) rfl ?_); refine goesL_ (some 22) rfl rfl Tryd.func61 (by kernel_rfl) rfl #[.int .i64 x7_8, .slice Ao166 y405.length co166] rfl agx ?_; (with_reducible refine (money_alike.calls kj8 x7_8 _ _ y405 t408 t409 true _ ?side1 ?side2 A11.out (by first | exact HG0.out | exact Kd.C_below HG0.out blx)).mono ?_); (case side1 => exact crx HO407); (case side2 => exact (Kd.R_reads' HO407.out).2.1); rintro e w167 ⟨rfl, hb⟩; refine ⟨_, rfl, ?_⟩; replace HO407 := hoq HO407 hb; replace BK402 := bkq BK402 hb; replace BK403 := bkq BK403 hb; replace BK404 := bkq BK404 hb; replace HB := Aside0.mk (below_step blx hb); (try clear hb); (try clear hb2); (try clear hk); (try clear hi)) | ((with_reducible refine gate_dst (N := 8) rfl ?_); refine bxe (N := 8) (cs := #[.int .i64 0, .int .i64 0]) (t := 23) ?_; intro gb411 hg w168 hbox hb; replace HO407 := Aside0.mk (Kd.R_below (Kd.R_elderB (by (with_reducible repeat (first | apply Kd.R_alloc | apply Kd.R_drewN | apply Kd.R_drew)); exact HO407.out) gb411 (Nat.le_of_eq hg.symm)) hb); have BK411 := Aside0.mk (hbox); have GW411 : Aside0 (w.heap.size ≤ gb411) := gwx hg; have GE411 : Aside0 (w.heap.size ≤ gb411) := gwx hg; replace HB := Aside0.mk (below_step blx hb); have NB402_411 := nbl BK402 hg; have NB411_402 := nbg BK402 hg; replace BK402 := bkq BK402 hb; have NB403_411 := nbl BK403 hg; have NB411_403 := nbg BK403 hg; replace BK403 := bkq BK403 hb; have NB404_411 := nbl BK404 hg; have NB411_404 := nbg BK404 hg; replace BK404 := bkq BK404 hb; clear hb hbox hg; have hnb169 := NB411_402.out; have hnc169 := NB402_411.out; have hnb170 := NB411_403.out; have hnc170 := NB403_411.out; have hnb171 := NB411_404.out; have hnc171 := NB404_411.out; obtain ⟨hcz172_0, hcz172_1, hfz172_0, hfz172_1⟩ := c2_ BK411; obtain ⟨hcz173_0, hcz173_1, hfz173_0, hfz173_1⟩ := c2_ BK402; obtain ⟨hcz174_0, hcz174_1, hfz174_0, hfz174_1⟩ := c2_ BK403; obtain ⟨hcz175_0, hcz175_1, hfz175_0, hfz175_1⟩ := c2_ BK404))
            refine bodyPost_ret (results_cell_row rfl _ _ gb404 23 #[.int .i64 3, .int .i64 1] (0, 0) _ rfl (by (with_reducible repeat (first | refine blk_drewN ?_ _ | refine blk_drew ?_ | refine blk_alloc ?_ _)); refine blk_put (cs := #[.int .i64 3, .int .i64 0]) ?_ 1 _ rfl; (with_reducible repeat (first | refine blk_drewN ?_ _ | refine blk_drew ?_ | refine blk_alloc ?_ _)); refine blk_put (cs := #[.int .i64 0, .int .i64 0]) ?_ 0 _ rfl; (with_reducible repeat (first | refine blk_drewN ?_ _ | refine blk_drew ?_ | refine blk_alloc ?_ _)); refine blk_far ?_ NB404_411.out _; (with_reducible repeat (first | refine blk_drewN ?_ _ | refine blk_drew ?_ | refine blk_alloc ?_ _)); refine blk_far ?_ NB404_411.out _; (with_reducible repeat (first | refine blk_drewN ?_ _ | refine blk_drew ?_ | refine blk_alloc ?_ _)); exact BK404.out) Tryd.underlying23 rfl (by kernel_rfl)) rfl ?_
            exact ⟨by first | rfl | (simp [errW_none, errW_some] <;> rfl) | (simp [*, errW_none, errW_some] <;> rfl), blx⟩
           ·rw [if_neg c158] at H
            have c158b0 : decide (a2_1 < a1_1) = false := decide_eq_false c158
            clear c158
            simp only [Option.some.injEq, Prod.mk.injEq] at H
            obtain ⟨rfl, rfl⟩ := H
            have hnb176 := NB402_403.out
            have hnc176 := NB403_402.out
            have hnb177 := NB402_404.out
            have hnc177 := NB404_402.out
            obtain ⟨hcz178_0, hcz178_1, hfz178_0, hfz178_1⟩ := c2_ BK402
            have hnb179 := NB403_404.out
            have hnc179 := NB404_403.out
            obtain ⟨hcz180_0, hcz180_1, hfz180_0, hfz180_1⟩ := c2_ BK403
            go_wp2_with (first | ((with_reducible refine gate_dst (N := 21) rfl ?_); refine Kd.R_lit k23 _ 23 ?hg (N := 21) ?hd (xs := ([(⟨a1_0, a1_1⟩ : S23), (⟨a2_0, a2_1⟩ : S23)] : List (S23))) (inner := [.int .i64 a1_0, .int .i64 a1_1, .int .i64 a2_0, .int .i64 a2_1]) (ok := fun _ => True) (okp := fun _ => True) ?hr ?hp (fun _ hk => hk) trivial (Below.refl _ _) (Nat.le_refl _) (by simp) ?_; (case hd => rfl); (case hg => rfl); (case hr => first | (go_simp; done) | (go_simp; rfl)); (case hp => exact (Reps.c2 (show Kd.M k23 _ _ _ (⟨a1_0, a1_1⟩ : S23) [.int .i64 a1_0, .int .i64 a1_1] from (k23_mkM _ _ _ (⟨a1_0, a1_1⟩ : S23) )) (Reps.c2 (show Kd.M k23 _ _ _ (⟨a2_0, a2_1⟩ : S23) [.int .i64 a2_0, .int .i64 a2_1] from (k23_mkM _ _ _ (⟨a2_0, a2_1⟩ : S23) )) (Reps.none _ _)))); intro v406 w181 ho182 hb hg_ hnew_; clear hg_ hnew_; (first | rw [← Ny405.out] at ho182 | (simp only [Int.reduceToNat] at ho182; rw [← Ny405.out] at ho182)); have HO407 := Aside0.mk (Kd.R_lower (Kd.R_newB (Kd.R_newB (Kd.R_newB ho182 (g := gb402) (o := .cells #[.int .i64 a1_0, .int .i64 a1_1] 23 (0, 0)) bkx) (g := gb403) (o := .cells #[.int .i64 a2_0, .int .i64 a2_1] 23 (0, 0)) bkx) (g := gb404) (o := .cells #[.int .i64 0, .int .i64 0] 23 (0, 0)) bkx) (below_size blx)); replace BK402 := bkq BK402 hb; replace BK403 := bkq BK403 hb; replace BK404 := bkq BK404 hb; replace HB := Aside0.mk (below_step blx hb); clear hb ho182; obtain ⟨Ao183, co183, eo183⟩ := Kd.R_slice HO407.out; subst eo183) | ((with_reducible refine gate_callee (f := 61) rfl ?_); refine goesL_ (some 22) rfl rfl Tryd.func61 (by kernel_rfl) rfl #[.int .i64 x7_8, .slice Ao183 y405.length co183] rfl agx ?_; (with_reducible refine (money_alike.calls kj8 x7_8 _ _ y405 t408 t409 true _ ?side1 ?side2 A11.out (by first | exact HG0.out | exact Kd.C_below HG0.out blx)).mono ?_); (case side1 => exact crx HO407); (case side2 => exact (Kd.R_reads' HO407.out).2.1); rintro e w184 ⟨rfl, hb⟩; refine ⟨_, rfl, ?_⟩; replace HO407 := hoq HO407 hb; replace BK402 := bkq BK402 hb; replace BK403 := bkq BK403 hb; replace BK404 := bkq BK404 hb; replace HB := Aside0.mk (below_step blx hb); (try clear hb); (try clear hb2); (try clear hk); (try clear hi)) | ((with_reducible refine gate_dst (N := 8) rfl ?_); refine bxe (N := 8) (cs := #[.int .i64 0, .int .i64 0]) (t := 23) ?_; intro gb411 hg w185 hbox hb; replace HO407 := Aside0.mk (Kd.R_below (Kd.R_elderB (by (with_reducible repeat (first | apply Kd.R_alloc | apply Kd.R_drewN | apply Kd.R_drew)); exact HO407.out) gb411 (Nat.le_of_eq hg.symm)) hb); have BK411 := Aside0.mk (hbox); have GW411 : Aside0 (w.heap.size ≤ gb411) := gwx hg; have GE411 : Aside0 (w.heap.size ≤ gb411) := gwx hg; replace HB := Aside0.mk (below_step blx hb); have NB402_411 := nbl BK402 hg; have NB411_402 := nbg BK402 hg; replace BK402 := bkq BK402 hb; have NB403_411 := nbl BK403 hg; have NB411_403 := nbg BK403 hg; replace BK403 := bkq BK403 hb; have NB404_411 := nbl BK404 hg; have NB411_404 := nbg BK404 hg; replace BK404 := bkq BK404 hb; clear hb hbox hg; have hnb186 := NB411_402.out; have hnc186 := NB402_411.out; have hnb187 := NB411_403.out; have hnc187 := NB403_411.out; have hnb188 := NB411_404.out; have hnc188 := NB404_411.out; obtain ⟨hcz189_0, hcz189_1, hfz189_0, hfz189_1⟩ := c2_ BK411; obtain ⟨hcz190_0, hcz190_1, hfz190_0, hfz190_1⟩ := c2_ BK402; obtain ⟨hcz191_0, hcz191_1, hfz191_0, hfz191_1⟩ := c2_ BK403; obtain ⟨hcz192_0, hcz192_1, hfz192_0, hfz192_1⟩ := c2_ BK404))
            refine bodyPost_ret (results_cell_row rfl _ _ gb404 23 #[.int .i64 3, .int .i64 0] (0, 0) _ rfl (by (with_reducible repeat (first | refine blk_drewN ?_ _ | refine blk_drew ?_ | refine blk_alloc ?_ _)); refine blk_put (cs := #[.int .i64 3, .int .i64 0]) ?_ 1 _ rfl; (with_reducible repeat (first | refine blk_drewN ?_ _ | refine blk_drew ?_ | refine blk_alloc ?_ _)); refine blk_put (cs := #[.int .i64 0, .int .i64 0]) ?_ 0 _ rfl; (with_reducible repeat (first | refine blk_drewN ?_ _ | refine blk_drew ?_ | refine blk_alloc ?_ _)); refine blk_far ?_ NB404_411.out _; (with_reducible repeat (first | refine blk_drewN ?_ _ | refine blk_drew ?_ | refine blk_alloc ?_ _)); refine blk_far ?_ NB404_411.out _; (with_reducible repeat (first | refine blk_drewN ?_ _ | refine blk_drew ?_ | refine blk_alloc ?_ _)); exact BK404.out) Tryd.underlying23 rfl (by kernel_rfl)) rfl ?_
            exact ⟨by first | rfl | (simp [errW_none, errW_some] <;> rfl) | (simp [*, errW_none, errW_some] <;> rfl), blx⟩
          ·rw [if_neg c157] at H
           have c157b0 : (a0 == 29) = false := beq_eq_false_iff_ne.mpr c157
           have c157b1 : (a0 != 29) = true := bne_iff_ne.mpr c157
           by_cases c193 : a0 = 30
           ·rw [if_pos c193] at H
            have c193b0 : (a0 == 30) = true := beq_iff_eq.mpr c193
            have c193b1 : (a0 != 30) = false := bne_eq_false_iff_eq.mpr c193
            clear c193
            by_cases c194 : a1_1 ≥ a2_1
            ·rw [if_pos c194] at H
             have c194b0 : decide (a2_1 ≤ a1_1) = true := decide_eq_true c194
             clear c194
             simp only [Option.some.injEq, Prod.mk.injEq] at H
             obtain ⟨rfl, rfl⟩ := H
             have hnb195 := NB402_403.out
             have hnc195 := NB403_402.out
             have hnb196 := NB402_404.out
             have hnc196 := NB404_402.out
             obtain ⟨hcz197_0, hcz197_1, hfz197_0, hfz197_1⟩ := c2_ BK402
             have hnb198 := NB403_404.out
             have hnc198 := NB404_403.out
             obtain ⟨hcz199_0, hcz199_1, hfz199_0, hfz199_1⟩ := c2_ BK403
             go_wp2_with (first | ((with_reducible refine gate_dst (N := 21) rfl ?_); refine Kd.R_lit k23 _ 23 ?hg (N := 21) ?hd (xs := ([(⟨a1_0, a1_1⟩ : S23), (⟨a2_0, a2_1⟩ : S23)] : List (S23))) (inner := [.int .i64 a1_0, .int .i64 a1_1, .int .i64 a2_0, .int .i64 a2_1]) (ok := fun _ => True) (okp := fun _ => True) ?hr ?hp (fun _ hk => hk) trivial (Below.refl _ _) (Nat.le_refl _) (by simp) ?_; (case hd => rfl); (case hg => rfl); (case hr => first | (go_simp; done) | (go_simp; rfl)); (case hp => exact (Reps.c2 (show Kd.M k23 _ _ _ (⟨a1_0, a1_1⟩ : S23) [.int .i64 a1_0, .int .i64 a1_1] from (k23_mkM _ _ _ (⟨a1_0, a1_1⟩ : S23) )) (Reps.c2 (show Kd.M k23 _ _ _ (⟨a2_0, a2_1⟩ : S23) [.int .i64 a2_0, .int .i64 a2_1] from (k23_mkM _ _ _ (⟨a2_0, a2_1⟩ : S23) )) (Reps.none _ _)))); intro v406 w200 ho201 hb hg_ hnew_; clear hg_ hnew_; (first | rw [← Ny405.out] at ho201 | (simp only [Int.reduceToNat] at ho201; rw [← Ny405.out] at ho201)); have HO407 := Aside0.mk (Kd.R_lower (Kd.R_newB (Kd.R_newB (Kd.R_newB ho201 (g := gb402) (o := .cells #[.int .i64 a1_0, .int .i64 a1_1] 23 (0, 0)) bkx) (g := gb403) (o := .cells #[.int .i64 a2_0, .int .i64 a2_1] 23 (0, 0)) bkx) (g := gb404) (o := .cells #[.int .i64 0, .int .i64 0] 23 (0, 0)) bkx) (below_size blx)); replace BK402 := bkq BK402 hb; replace BK403 := bkq BK403 hb; replace BK404 := bkq BK404 hb; replace HB := Aside0.mk (below_step blx hb); clear hb ho201; obtain ⟨Ao202, co202, eo202⟩ := Kd.R_slice HO407.out; subst eo202) | ((with_reducible refine gate_callee (f := 61) rfl ?_); refine goesL_ (some 22) rfl rfl Tryd.func61 (by kernel_rfl) rfl #[.int .i64 x7_8, .slice Ao202 y405.length co202] rfl agx ?_; (with_reducible refine (money_alike.calls kj8 x7_8 _ _ y405 t408 t409 true _ ?side1 ?side2 A11.out (by first | exact HG0.out | exact Kd.C_below HG0.out blx)).mono ?_); (case side1 => exact crx HO407); (case side2 => exact (Kd.R_reads' HO407.out).2.1); rintro e w203 ⟨rfl, hb⟩; refine ⟨_, rfl, ?_⟩; replace HO407 := hoq HO407 hb; replace BK402 := bkq BK402 hb; replace BK403 := bkq BK403 hb; replace BK404 := bkq BK404 hb; replace HB := Aside0.mk (below_step blx hb); (try clear hb); (try clear hb2); (try clear hk); (try clear hi)) | ((with_reducible refine gate_dst (N := 8) rfl ?_); refine bxe (N := 8) (cs := #[.int .i64 0, .int .i64 0]) (t := 23) ?_; intro gb411 hg w204 hbox hb; replace HO407 := Aside0.mk (Kd.R_below (Kd.R_elderB (by (with_reducible repeat (first | apply Kd.R_alloc | apply Kd.R_drewN | apply Kd.R_drew)); exact HO407.out) gb411 (Nat.le_of_eq hg.symm)) hb); have BK411 := Aside0.mk (hbox); have GW411 : Aside0 (w.heap.size ≤ gb411) := gwx hg; have GE411 : Aside0 (w.heap.size ≤ gb411) := gwx hg; replace HB := Aside0.mk (below_step blx hb); have NB402_411 := nbl BK402 hg; have NB411_402 := nbg BK402 hg; replace BK402 := bkq BK402 hb; have NB403_411 := nbl BK403 hg; have NB411_403 := nbg BK403 hg; replace BK403 := bkq BK403 hb; have NB404_411 := nbl BK404 hg; have NB411_404 := nbg BK404 hg; replace BK404 := bkq BK404 hb; clear hb hbox hg; have hnb205 := NB411_402.out; have hnc205 := NB402_411.out; have hnb206 := NB411_403.out; have hnc206 := NB403_411.out; have hnb207 := NB411_404.out; have hnc207 := NB404_411.out; obtain ⟨hcz208_0, hcz208_1, hfz208_0, hfz208_1⟩ := c2_ BK411; obtain ⟨hcz209_0, hcz209_1, hfz209_0, hfz209_1⟩ := c2_ BK402; obtain ⟨hcz210_0, hcz210_1, hfz210_0, hfz210_1⟩ := c2_ BK403; obtain ⟨hcz211_0, hcz211_1, hfz211_0, hfz211_1⟩ := c2_ BK404))
             refine bodyPost_ret (results_cell_row rfl _ _ gb404 23 #[.int .i64 3, .int .i64 1] (0, 0) _ rfl (by (with_reducible repeat (first | refine blk_drewN ?_ _ | refine blk_drew ?_ | refine blk_alloc ?_ _)); refine blk_put (cs := #[.int .i64 3, .int .i64 0]) ?_ 1 _ rfl; (with_reducible repeat (first | refine blk_drewN ?_ _ | refine blk_drew ?_ | refine blk_alloc ?_ _)); refine blk_put (cs := #[.int .i64 0, .int .i64 0]) ?_ 0 _ rfl; (with_reducible repeat (first | refine blk_drewN ?_ _ | refine blk_drew ?_ | refine blk_alloc ?_ _)); refine blk_far ?_ NB404_411.out _; (with_reducible repeat (first | refine blk_drewN ?_ _ | refine blk_drew ?_ | refine blk_alloc ?_ _)); refine blk_far ?_ NB404_411.out _; (with_reducible repeat (first | refine blk_drewN ?_ _ | refine blk_drew ?_ | refine blk_alloc ?_ _)); exact BK404.out) Tryd.underlying23 rfl (by kernel_rfl)) rfl ?_
             exact ⟨by first | rfl | (simp [errW_none, errW_some] <;> rfl) | (simp [*, errW_none, errW_some] <;> rfl), blx⟩
            ·rw [if_neg c194] at H
             have c194b0 : decide (a2_1 ≤ a1_1) = false := decide_eq_false c194
             clear c194
             simp only [Option.some.injEq, Prod.mk.injEq] at H
             obtain ⟨rfl, rfl⟩ := H
             have hnb212 := NB402_403.out
             have hnc212 := NB403_402.out
             have hnb213 := NB402_404.out
             have hnc213 := NB404_402.out
             obtain ⟨hcz214_0, hcz214_1, hfz214_0, hfz214_1⟩ := c2_ BK402
             have hnb215 := NB403_404.out
             have hnc215 := NB404_403.out
             obtain ⟨hcz216_0, hcz216_1, hfz216_0, hfz216_1⟩ := c2_ BK403
             go_wp2_with (first | ((with_reducible refine gate_dst (N := 21) rfl ?_); refine Kd.R_lit k23 _ 23 ?hg (N := 21) ?hd (xs := ([(⟨a1_0, a1_1⟩ : S23), (⟨a2_0, a2_1⟩ : S23)] : List (S23))) (inner := [.int .i64 a1_0, .int .i64 a1_1, .int .i64 a2_0, .int .i64 a2_1]) (ok := fun _ => True) (okp := fun _ => True) ?hr ?hp (fun _ hk => hk) trivial (Below.refl _ _) (Nat.le_refl _) (by simp) ?_; (case hd => rfl); (case hg => rfl); (case hr => first | (go_simp; done) | (go_simp; rfl)); (case hp => exact (Reps.c2 (show Kd.M k23 _ _ _ (⟨a1_0, a1_1⟩ : S23) [.int .i64 a1_0, .int .i64 a1_1] from (k23_mkM _ _ _ (⟨a1_0, a1_1⟩ : S23) )) (Reps.c2 (show Kd.M k23 _ _ _ (⟨a2_0, a2_1⟩ : S23) [.int .i64 a2_0, .int .i64 a2_1] from (k23_mkM _ _ _ (⟨a2_0, a2_1⟩ : S23) )) (Reps.none _ _)))); intro v406 w217 ho218 hb hg_ hnew_; clear hg_ hnew_; (first | rw [← Ny405.out] at ho218 | (simp only [Int.reduceToNat] at ho218; rw [← Ny405.out] at ho218)); have HO407 := Aside0.mk (Kd.R_lower (Kd.R_newB (Kd.R_newB (Kd.R_newB ho218 (g := gb402) (o := .cells #[.int .i64 a1_0, .int .i64 a1_1] 23 (0, 0)) bkx) (g := gb403) (o := .cells #[.int .i64 a2_0, .int .i64 a2_1] 23 (0, 0)) bkx) (g := gb404) (o := .cells #[.int .i64 0, .int .i64 0] 23 (0, 0)) bkx) (below_size blx)); replace BK402 := bkq BK402 hb; replace BK403 := bkq BK403 hb; replace BK404 := bkq BK404 hb; replace HB := Aside0.mk (below_step blx hb); clear hb ho218; obtain ⟨Ao219, co219, eo219⟩ := Kd.R_slice HO407.out; subst eo219) | ((with_reducible refine gate_callee (f := 61) rfl ?_); refine goesL_ (some 22) rfl rfl Tryd.func61 (by kernel_rfl) rfl #[.int .i64 x7_8, .slice Ao219 y405.length co219] rfl agx ?_; (with_reducible refine (money_alike.calls kj8 x7_8 _ _ y405 t408 t409 true _ ?side1 ?side2 A11.out (by first | exact HG0.out | exact Kd.C_below HG0.out blx)).mono ?_); (case side1 => exact crx HO407); (case side2 => exact (Kd.R_reads' HO407.out).2.1); rintro e w220 ⟨rfl, hb⟩; refine ⟨_, rfl, ?_⟩; replace HO407 := hoq HO407 hb; replace BK402 := bkq BK402 hb; replace BK403 := bkq BK403 hb; replace BK404 := bkq BK404 hb; replace HB := Aside0.mk (below_step blx hb); (try clear hb); (try clear hb2); (try clear hk); (try clear hi)) | ((with_reducible refine gate_dst (N := 8) rfl ?_); refine bxe (N := 8) (cs := #[.int .i64 0, .int .i64 0]) (t := 23) ?_; intro gb411 hg w221 hbox hb; replace HO407 := Aside0.mk (Kd.R_below (Kd.R_elderB (by (with_reducible repeat (first | apply Kd.R_alloc | apply Kd.R_drewN | apply Kd.R_drew)); exact HO407.out) gb411 (Nat.le_of_eq hg.symm)) hb); have BK411 := Aside0.mk (hbox); have GW411 : Aside0 (w.heap.size ≤ gb411) := gwx hg; have GE411 : Aside0 (w.heap.size ≤ gb411) := gwx hg; replace HB := Aside0.mk (below_step blx hb); have NB402_411 := nbl BK402 hg; have NB411_402 := nbg BK402 hg; replace BK402 := bkq BK402 hb; have NB403_411 := nbl BK403 hg; have NB411_403 := nbg BK403 hg; replace BK403 := bkq BK403 hb; have NB404_411 := nbl BK404 hg; have NB411_404 := nbg BK404 hg; replace BK404 := bkq BK404 hb; clear hb hbox hg; have hnb222 := NB411_402.out; have hnc222 := NB402_411.out; have hnb223 := NB411_403.out; have hnc223 := NB403_411.out; have hnb224 := NB411_404.out; have hnc224 := NB404_411.out; obtain ⟨hcz225_0, hcz225_1, hfz225_0, hfz225_1⟩ := c2_ BK411; obtain ⟨hcz226_0, hcz226_1, hfz226_0, hfz226_1⟩ := c2_ BK402; obtain ⟨hcz227_0, hcz227_1, hfz227_0, hfz227_1⟩ := c2_ BK403; obtain ⟨hcz228_0, hcz228_1, hfz228_0, hfz228_1⟩ := c2_ BK404))
             refine bodyPost_ret (results_cell_row rfl _ _ gb404 23 #[.int .i64 3, .int .i64 0] (0, 0) _ rfl (by (with_reducible repeat (first | refine blk_drewN ?_ _ | refine blk_drew ?_ | refine blk_alloc ?_ _)); refine blk_put (cs := #[.int .i64 3, .int .i64 0]) ?_ 1 _ rfl; (with_reducible repeat (first | refine blk_drewN ?_ _ | refine blk_drew ?_ | refine blk_alloc ?_ _)); refine blk_put (cs := #[.int .i64 0, .int .i64 0]) ?_ 0 _ rfl; (with_reducible repeat (first | refine blk_drewN ?_ _ | refine blk_drew ?_ | refine blk_alloc ?_ _)); refine blk_far ?_ NB404_411.out _; (with_reducible repeat (first | refine blk_drewN ?_ _ | refine blk_drew ?_ | refine blk_alloc ?_ _)); refine blk_far ?_ NB404_411.out _; (with_reducible repeat (first | refine blk_drewN ?_ _ | refine blk_drew ?_ | refine blk_alloc ?_ _)); exact BK404.out) Tryd.underlying23 rfl (by kernel_rfl)) rfl ?_
             exact ⟨by first | rfl | (simp [errW_none, errW_some] <;> rfl) | (simp [*, errW_none, errW_some] <;> rfl), blx⟩
           ·rw [if_neg c193] at H
            have c193b0 : (a0 == 30) = false := beq_eq_false_iff_ne.mpr c193
            have c193b1 : (a0 != 30) = true := bne_iff_ne.mpr c193
            replace H := Option.bind_eq_some_iff.mp H
            obtain ⟨⟨t412, t413⟩, A2290, H⟩ := H
            replace H : (some (t412, t413)) = some (r1, r2) := H
            have A229 := Aside0.mk A2290
            clear A2290
            simp only [Option.some.injEq, Prod.mk.injEq] at H
            obtain ⟨rfl, rfl⟩ := H
            have hnb230 := NB402_403.out
            have hnc230 := NB403_402.out
            have hnb231 := NB402_404.out
            have hnc231 := NB404_402.out
            obtain ⟨hcz232_0, hcz232_1, hfz232_0, hfz232_1⟩ := c2_ BK402
            have hnb233 := NB403_404.out
            have hnc233 := NB404_403.out
            obtain ⟨hcz234_0, hcz234_1, hfz234_0, hfz234_1⟩ := c2_ BK403
            go_wp2_with (first | ((with_reducible refine gate_dst (N := 21) rfl ?_); refine Kd.R_lit k23 _ 23 ?hg (N := 21) ?hd (xs := ([(⟨a1_0, a1_1⟩ : S23), (⟨a2_0, a2_1⟩ : S23)] : List (S23))) (inner := [.int .i64 a1_0, .int .i64 a1_1, .int .i64 a2_0, .int .i64 a2_1]) (ok := fun _ => True) (okp := fun _ => True) ?hr ?hp (fun _ hk => hk) trivial (Below.refl _ _) (Nat.le_refl _) (by simp) ?_; (case hd => rfl); (case hg => rfl); (case hr => first | (go_simp; done) | (go_simp; rfl)); (case hp => exact (Reps.c2 (show Kd.M k23 _ _ _ (⟨a1_0, a1_1⟩ : S23) [.int .i64 a1_0, .int .i64 a1_1] from (k23_mkM _ _ _ (⟨a1_0, a1_1⟩ : S23) )) (Reps.c2 (show Kd.M k23 _ _ _ (⟨a2_0, a2_1⟩ : S23) [.int .i64 a2_0, .int .i64 a2_1] from (k23_mkM _ _ _ (⟨a2_0, a2_1⟩ : S23) )) (Reps.none _ _)))); intro v406 w235 ho236 hb hg_ hnew_; clear hg_ hnew_; (first | rw [← Ny405.out] at ho236 | (simp only [Int.reduceToNat] at ho236; rw [← Ny405.out] at ho236)); have HO407 := Aside0.mk (Kd.R_lower (Kd.R_newB (Kd.R_newB (Kd.R_newB ho236 (g := gb402) (o := .cells #[.int .i64 a1_0, .int .i64 a1_1] 23 (0, 0)) bkx) (g := gb403) (o := .cells #[.int .i64 a2_0, .int .i64 a2_1] 23 (0, 0)) bkx) (g := gb404) (o := .cells #[.int .i64 0, .int .i64 0] 23 (0, 0)) bkx) (below_size blx)); replace BK402 := bkq BK402 hb; replace BK403 := bkq BK403 hb; replace BK404 := bkq BK404 hb; replace HB := Aside0.mk (below_step blx hb); clear hb ho236; obtain ⟨Ao237, co237, eo237⟩ := Kd.R_slice HO407.out; subst eo237) | ((with_reducible refine gate_callee (f := 61) rfl ?_); refine goesL_ (some 22) rfl rfl Tryd.func61 (by kernel_rfl) rfl #[.int .i64 x7_8, .slice Ao237 y405.length co237] rfl agx ?_; (with_reducible refine (money_alike.calls kj8 x7_8 _ _ y405 t408 t409 true _ ?side1 ?side2 A11.out (by first | exact HG0.out | exact Kd.C_below HG0.out blx)).mono ?_); (case side1 => exact crx HO407); (case side2 => exact (Kd.R_reads' HO407.out).2.1); rintro e w238 ⟨rfl, hb⟩; refine ⟨_, rfl, ?_⟩; replace HO407 := hoq HO407 hb; replace BK402 := bkq BK402 hb; replace BK403 := bkq BK403 hb; replace BK404 := bkq BK404 hb; replace HB := Aside0.mk (below_step blx hb); (try clear hb); (try clear hb2); (try clear hk); (try clear hi)) | ((with_reducible refine gate_dst (N := 8) rfl ?_); refine bxe (N := 8) (cs := #[.int .i64 0, .int .i64 0]) (t := 23) ?_; intro gb411 hg w239 hbox hb; replace HO407 := Aside0.mk (Kd.R_below (Kd.R_elderB (by (with_reducible repeat (first | apply Kd.R_alloc | apply Kd.R_drewN | apply Kd.R_drew)); exact HO407.out) gb411 (Nat.le_of_eq hg.symm)) hb); have BK411 := Aside0.mk (hbox); have GW411 : Aside0 (w.heap.size ≤ gb411) := gwx hg; have GE411 : Aside0 (w.heap.size ≤ gb411) := gwx hg; replace HB := Aside0.mk (below_step blx hb); have NB402_411 := nbl BK402 hg; have NB411_402 := nbg BK402 hg; replace BK402 := bkq BK402 hb; have NB403_411 := nbl BK403 hg; have NB411_403 := nbg BK403 hg; replace BK403 := bkq BK403 hb; have NB404_411 := nbl BK404 hg; have NB411_404 := nbg BK404 hg; replace BK404 := bkq BK404 hb; clear hb hbox hg; have hnb240 := NB411_402.out; have hnc240 := NB402_411.out; have hnb241 := NB411_403.out; have hnc241 := NB403_411.out; have hnb242 := NB411_404.out; have hnc242 := NB404_411.out; obtain ⟨hcz243_0, hcz243_1, hfz243_0, hfz243_1⟩ := c2_ BK411) | ((with_reducible refine gate_callee (f := 59) rfl ?_); refine goesL_ (some 29) rfl rfl Tryd.func59 (by kernel_rfl) rfl #[.int .i64 5] rfl agx ?_; (with_reducible refine (money_fault.calls 5 t412 t413 _ A229.out).mono ?_); rintro e w244 ⟨rfl, hb⟩; refine ⟨_, rfl, ?_⟩; replace HO407 := Aside0.mk (Kd.R_below (by (with_reducible repeat (first | apply Kd.R_alloc | apply Kd.R_drewN | apply Kd.R_drew)); exact (Kd.R_mono (Kd.R_far (p := ⟨gb411, 1, none⟩) (Kd.R_far (p := ⟨gb411, 0, none⟩) (Kd.R_mono HO407.out (fun k_ hk => (⟨hk, hk.2⟩ : _ ∧ k_ ≠ gb411))) (fun _ hk => hk.2) (.int .i64 t408)) (fun _ hk => hk.2) (.int .i64 t409)) (fun _ h_ => h_.1))) hb); replace BK402 := bkq BK402 hb; replace BK403 := bkq BK403 hb; replace BK404 := bkq BK404 hb; replace BK411 := Aside0.mk (blk_below (g := gb411) (o := .cells #[.int .i64 t408, .int .i64 t409] 23 (0, 0)) (by (with_reducible repeat (first | refine blk_drewN ?_ _ | refine blk_drew ?_ | refine blk_alloc ?_ _)); refine blk_put (cs := #[.int .i64 t408, .int .i64 0]) ?_ 1 _ rfl; (with_reducible repeat (first | refine blk_drewN ?_ _ | refine blk_drew ?_ | refine blk_alloc ?_ _)); refine blk_put (cs := #[.int .i64 0, .int .i64 0]) ?_ 0 _ rfl; (with_reducible repeat (first | refine blk_drewN ?_ _ | refine blk_drew ?_ | refine blk_alloc ?_ _)); exact BK411.out) hb); replace HB := Aside0.mk (below_step blx hb); (try clear hb); (try clear hb2); (try clear hk); (try clear hi); obtain ⟨hcz245_0, hcz245_1, hfz245_0, hfz245_1⟩ := c2_ BK404))
            refine bodyPost_ret (results_cell_row rfl _ _ gb404 23 #[.int .i64 t412, .int .i64 t413] (0, 0) _ rfl (by (with_reducible repeat (first | refine blk_drewN ?_ _ | refine blk_drew ?_ | refine blk_alloc ?_ _)); refine blk_put (cs := #[.int .i64 t412, .int .i64 0]) ?_ 1 _ rfl; (with_reducible repeat (first | refine blk_drewN ?_ _ | refine blk_drew ?_ | refine blk_alloc ?_ _)); refine blk_put (cs := #[.int .i64 0, .int .i64 0]) ?_ 0 _ rfl; (with_reducible repeat (first | refine blk_drewN ?_ _ | refine blk_drew ?_ | refine blk_alloc ?_ _)); exact BK404.out) Tryd.underlying23 rfl (by kernel_rfl)) rfl ?_
            exact ⟨by first | rfl | (simp [errW_none, errW_some] <;> rfl) | (simp [*, errW_none, errW_some] <;> rfl), blx⟩
     ·replace c12 := Bool.eq_false_iff.mpr c12
      subst c12
      have H1 : (some (t408, t409)) = some (r1, r2) := by rw [if_neg (show ¬ (false = true) by decide)] at H; exact H
      clear H
      have H := H1
      clear H1
      simp only [Option.some.injEq, Prod.mk.injEq] at H
      obtain ⟨rfl, rfl⟩ := H
      have hnb246 := NB402_403.out
      have hnc246 := NB403_402.out
      have hnb247 := NB402_404.out
      have hnc247 := NB404_402.out
      obtain ⟨hcz248_0, hcz248_1, hfz248_0, hfz248_1⟩ := c2_ BK402
      have hnb249 := NB403_404.out
      have hnc249 := NB404_403.out
      obtain ⟨hcz250_0, hcz250_1, hfz250_0, hfz250_1⟩ := c2_ BK403
      go_wp2_with (first | ((with_reducible refine gate_dst (N := 21) rfl ?_); refine Kd.R_lit k23 _ 23 ?hg (N := 21) ?hd (xs := ([(⟨a1_0, a1_1⟩ : S23), (⟨a2_0, a2_1⟩ : S23)] : List (S23))) (inner := [.int .i64 a1_0, .int .i64 a1_1, .int .i64 a2_0, .int .i64 a2_1]) (ok := fun _ => True) (okp := fun _ => True) ?hr ?hp (fun _ hk => hk) trivial (Below.refl _ _) (Nat.le_refl _) (by simp) ?_; (case hd => rfl); (case hg => rfl); (case hr => first | (go_simp; done) | (go_simp; rfl)); (case hp => exact (Reps.c2 (show Kd.M k23 _ _ _ (⟨a1_0, a1_1⟩ : S23) [.int .i64 a1_0, .int .i64 a1_1] from (k23_mkM _ _ _ (⟨a1_0, a1_1⟩ : S23) )) (Reps.c2 (show Kd.M k23 _ _ _ (⟨a2_0, a2_1⟩ : S23) [.int .i64 a2_0, .int .i64 a2_1] from (k23_mkM _ _ _ (⟨a2_0, a2_1⟩ : S23) )) (Reps.none _ _)))); intro v406 w251 ho252 hb hg_ hnew_; clear hg_ hnew_; (first | rw [← Ny405.out] at ho252 | (simp only [Int.reduceToNat] at ho252; rw [← Ny405.out] at ho252)); have HO407 := Aside0.mk (Kd.R_lower (Kd.R_newB (Kd.R_newB (Kd.R_newB ho252 (g := gb402) (o := .cells #[.int .i64 a1_0, .int .i64 a1_1] 23 (0, 0)) bkx) (g := gb403) (o := .cells #[.int .i64 a2_0, .int .i64 a2_1] 23 (0, 0)) bkx) (g := gb404) (o := .cells #[.int .i64 0, .int .i64 0] 23 (0, 0)) bkx) (below_size blx)); replace BK402 := bkq BK402 hb; replace BK403 := bkq BK403 hb; replace BK404 := bkq BK404 hb; replace HB := Aside0.mk (below_step blx hb); clear hb ho252; obtain ⟨Ao253, co253, eo253⟩ := Kd.R_slice HO407.out; subst eo253) | ((with_reducible refine gate_callee (f := 61) rfl ?_); refine goesL_ (some 22) rfl rfl Tryd.func61 (by kernel_rfl) rfl #[.int .i64 x7_8, .slice Ao253 y405.length co253] rfl agx ?_; (with_reducible refine (money_alike.calls kj8 x7_8 _ _ y405 t408 t409 false _ ?side1 ?side2 A11.out (by first | exact HG0.out | exact Kd.C_below HG0.out blx)).mono ?_); (case side1 => exact crx HO407); (case side2 => exact (Kd.R_reads' HO407.out).2.1); rintro e w254 ⟨rfl, hb⟩; refine ⟨_, rfl, ?_⟩; replace HO407 := hoq HO407 hb; replace BK402 := bkq BK402 hb; replace BK403 := bkq BK403 hb; replace BK404 := bkq BK404 hb; replace HB := Aside0.mk (below_step blx hb); (try clear hb); (try clear hb2); (try clear hk); (try clear hi)) | ((with_reducible refine gate_dst (N := 8) rfl ?_); refine bxe (N := 8) (cs := #[.int .i64 0, .int .i64 0]) (t := 23) ?_; intro gb411 hg w255 hbox hb; replace HO407 := Aside0.mk (Kd.R_below (Kd.R_elderB (by (with_reducible repeat (first | apply Kd.R_alloc | apply Kd.R_drewN | apply Kd.R_drew)); exact HO407.out) gb411 (Nat.le_of_eq hg.symm)) hb); have BK411 := Aside0.mk (hbox); have GW411 : Aside0 (w.heap.size ≤ gb411) := gwx hg; have GE411 : Aside0 (w.heap.size ≤ gb411) := gwx hg; replace HB := Aside0.mk (below_step blx hb); have NB402_411 := nbl BK402 hg; have NB411_402 := nbg BK402 hg; replace BK402 := bkq BK402 hb; have NB403_411 := nbl BK403 hg; have NB411_403 := nbg BK403 hg; replace BK403 := bkq BK403 hb; have NB404_411 := nbl BK404 hg; have NB411_404 := nbg BK404 hg; replace BK404 := bkq BK404 hb; clear hb hbox hg; have hnb256 := NB411_402.out; have hnc256 := NB402_411.out; have hnb257 := NB411_403.out; have hnc257 := NB403_411.out; have hnb258 := NB411_404.out; have hnc258 := NB404_411.out; obtain ⟨hcz259_0, hcz259_1, hfz259_0, hfz259_1⟩ := c2_ BK411; obtain ⟨hcz260_0, hcz260_1, hfz260_0, hfz260_1⟩ := c2_ BK404))
      refine bodyPost_ret (results_cell_row rfl _ _ gb404 23 #[.int .i64 t408, .int .i64 t409] (0, 0) _ rfl (by (with_reducible repeat (first | refine blk_drewN ?_ _ | refine blk_drew ?_ | refine blk_alloc ?_ _)); refine blk_put (cs := #[.int .i64 t408, .int .i64 0]) ?_ 1 _ rfl; (with_reducible repeat (first | refine blk_drewN ?_ _ | refine blk_drew ?_ | refine blk_alloc ?_ _)); refine blk_put (cs := #[.int .i64 0, .int .i64 0]) ?_ 0 _ rfl; (with_reducible repeat (first | refine blk_drewN ?_ _ | refine blk_drew ?_ | refine blk_alloc ?_ _)); refine blk_far ?_ NB404_411.out _; (with_reducible repeat (first | refine blk_drewN ?_ _ | refine blk_drew ?_ | refine blk_alloc ?_ _)); refine blk_far ?_ NB404_411.out _; (with_reducible repeat (first | refine blk_drewN ?_ _ | refine blk_drew ?_ | refine blk_alloc ?_ _)); exact BK404.out) Tryd.underlying23 rfl (by kernel_rfl)) rfl ?_
      exact ⟨by first | rfl | (simp [errW_none, errW_some] <;> rfl) | (simp [*, errW_none, errW_some] <;> rfl), blx⟩
end Go.Proofs.YtnjhjaifmgjljaaDoor.PM
end

section
namespace Go.Proofs.YtnjhjaifmgjljaaDoor.PM
open Go.RowKit Go.Proofs.YtnjhjaifmgjljaaDoorW.PrintWords Go.Proofs.YtnjhjaifmgjljaaDoorW.PrintLast Go.Proofs.YtnjhjaifmgjljaaDoorW.PrintMore
attribute [local go_sem] max2_int min2_int max_two min_two max_three min_three max_four min_four
set_option linter.unusedVariables false
set_option linter.unusedSimpArgs false
def money_modes.f (a0 : Int) : Option (Bool) := if a0 ≥ 1 then (some (decide (a0 ≤ 5))) else (some false)
set_option maxHeartbeats 8000000 in
set_option maxRecDepth 100000 in
theorem money_modes.calls (a0 : Int) (r : Bool) (w : World) (h : money_modes.f a0 = some r) :
  Calls Tryd.prog 66 #[.int .i64 a0] w fun e w' => e = .returned (.bool r) ∧ Drawn0 w w' := by
 have H : (if a0 ≥ 1 then (some (decide (a0 ≤ 5))) else (some false)) = some r := h
 clear h
 by_cases c2 : a0 ≥ 1
 ·rw [if_pos c2] at H
  have c2b0 : decide (1 ≤ a0) = true := decide_eq_true c2
  clear c2
  obtain rfl := Option.some.inj H
  go_enter Tryd.func66, Tryd.ntmps66
  go_wp2
  go_ret
  exact ⟨by first | rfl | (simp; done) | (simp [*]; done), by repeat (first | exact Drawn0.refl _ | apply Drawn0.step)⟩
 ·rw [if_neg c2] at H
  have c2b0 : decide (1 ≤ a0) = false := decide_eq_false c2
  clear c2
  obtain rfl := Option.some.inj H
  go_enter Tryd.func66, Tryd.ntmps66
  go_wp2
  go_ret
  exact ⟨by first | rfl | (simp; done) | (simp [*]; done), by repeat (first | exact Drawn0.refl _ | apply Drawn0.step)⟩
end Go.Proofs.YtnjhjaifmgjljaaDoor.PM
end

section
namespace Go.Proofs.YtnjhjaifmgjljaaDoor.PM
open Go.RowKit Go.Proofs.YtnjhjaifmgjljaaDoorW.PrintWords Go.Proofs.YtnjhjaifmgjljaaDoorW.PrintLast Go.Proofs.YtnjhjaifmgjljaaDoorW.PrintMore
attribute [local go_sem] max2_int min2_int max_two min_two max_three min_three max_four min_four
set_option linter.unusedVariables false
set_option linter.unusedSimpArgs false
def money_amount.f (a0 : Int) : Option (Int × Bool) := if a0 < 0 then (some (IntKind.u64.wrap (wrap64 (-a0)), true)) else (some (IntKind.u64.wrap (a0), false))
set_option maxHeartbeats 8000000 in
set_option maxRecDepth 100000 in
theorem money_amount.calls (a0 : Int) (r1 : Int) (r2 : Bool) (w : World) (h : money_amount.f a0 = some (r1, r2)) :
  Calls Tryd.prog 67 #[.int .i64 a0] w fun e w' => e = .returned (.tuple #[.int .u64 r1, .bool r2]) ∧ Drawn0 w w' := by
 have H : (if a0 < 0 then (some (IntKind.u64.wrap (wrap64 (-a0)), true)) else (some (IntKind.u64.wrap (a0), false))) = some (r1, r2) := h
 clear h
 by_cases c2 : a0 < 0
 ·rw [if_pos c2] at H
  have c2b0 : decide (a0 < 0) = true := decide_eq_true c2
  clear c2
  simp only [Option.some.injEq, Prod.mk.injEq] at H
  obtain ⟨rfl, rfl⟩ := H
  go_enter Tryd.func67, Tryd.ntmps67
  go_wp2
  go_ret2
  exact ⟨by first | rfl | (simp; done) | (simp [*]; done), by repeat (first | exact Drawn0.refl _ | apply Drawn0.step)⟩
 ·rw [if_neg c2] at H
  have c2b0 : decide (a0 < 0) = false := decide_eq_false c2
  clear c2
  simp only [Option.some.injEq, Prod.mk.injEq] at H
  obtain ⟨rfl, rfl⟩ := H
  go_enter Tryd.func67, Tryd.ntmps67
  go_wp2
  go_ret2
  exact ⟨by first | rfl | (simp; done) | (simp [*]; done), by repeat (first | exact Drawn0.refl _ | apply Drawn0.step)⟩
end Go.Proofs.YtnjhjaifmgjljaaDoor.PM
end

section
namespace Go.Proofs.YtnjhjaifmgjljaaDoor.PM
open Go.RowKit Go.Proofs.YtnjhjaifmgjljaaDoorW.PrintWords Go.Proofs.YtnjhjaifmgjljaaDoorW.PrintLast Go.Proofs.YtnjhjaifmgjljaaDoorW.PrintMore
attribute [local go_sem] max2_int min2_int max_two min_two max_three min_three max_four min_four
set_option linter.unusedVariables false
set_option linter.unusedSimpArgs false
def money_rounded.j0 : Nat → Int → Bool → Bool → Option (Int × Bool)
 | 0, _, _, _ => none
 | k + 1, x0, x3, x12 => if x0 > 4611686018427387904 then (some (0, false)) else (if x12 = true then (if x3 = true then (some (wrap64 (-(wrap64 (IntKind.u64.wrap (x0 + 1)))), true)) else (some (wrap64 (IntKind.u64.wrap (x0 + 1)), true))) else (if x3 = true then (some (wrap64 (-(wrap64 (x0))), true)) else (some (wrap64 (x0), true))))
def money_rounded.f (k : Nat) (a0 : Int) (a1 : Int) (a2 : Int) (a3 : Bool) (a4 : Int) : Option (Int × Bool) := if a1 > 0 then (if a4 = 1 then (money_rounded.j0 k a0 a3 a3) else (if a4 = 2 then (money_rounded.j0 k a0 a3 (!a3)) else (if a4 = 4 then (if a1 > (IntKind.u64.wrap (a2 - a1)) then (money_rounded.j0 k a0 a3 true) else (if a1 = (IntKind.u64.wrap (a2 - a1)) then (money_rounded.j0 k a0 a3 (!a3)) else (money_rounded.j0 k a0 a3 false))) else (if a4 = 5 then (if a1 > (IntKind.u64.wrap (a2 - a1)) then (money_rounded.j0 k a0 a3 true) else (if a1 = (IntKind.u64.wrap (a2 - a1)) then (money_rounded.j0 k a0 a3 ((Int.tmod a0 2) == 1)) else (money_rounded.j0 k a0 a3 false))) else (money_rounded.j0 k a0 a3 false))))) else (money_rounded.j0 k a0 a3 false)
theorem money_rounded.mono_l : ∀ k, (∀ y0 y1 y2, LeO (money_rounded.j0 k y0 y1 y2) (money_rounded.j0 (k + 1) y0 y1 y2))
 | 0 => fun _ _ _ r h => by simp [money_rounded.j0] at h
 | k + 1 => by
  have ih0 := money_rounded.mono_l k
  ·intro y0 y1 y2
   unfold money_rounded.j0
   repeat' first
   | (with_reducible exact ih0 _ _ _)
   | (with_reducible exact LeO.refl _)
   | (with_reducible exact LeO.none _)
   | (with_reducible refine LeO.ite ?_ ?_)
   | (with_reducible refine LeO.bind ?_ (fun _ => ?_))
   | exact ih0 _ _ _
   | exact LeO.none _
   | refine LeO.ite ?_ ?_
   | refine LeO.bind ?_ (fun _ => ?_)
theorem money_rounded.mono : ∀ a0 a1 a2 a3 a4 k, LeO (money_rounded.f k a0 a1 a2 a3 a4) (money_rounded.f (k + 1) a0 a1 a2 a3 a4) := by
 intro a0 a1 a2 a3 a4 k
 have ih0 := money_rounded.mono_l k
 unfold money_rounded.f
 repeat' first
   | (with_reducible exact ih0 _ _ _)
   | (with_reducible exact LeO.refl _)
   | (with_reducible exact LeO.none _)
   | (with_reducible refine LeO.ite ?_ ?_)
   | (with_reducible refine LeO.bind ?_ (fun _ => ?_))
   | exact ih0 _ _ _
   | exact LeO.none _
   | refine LeO.ite ?_ ?_
   | refine LeO.bind ?_ (fun _ => ?_)
set_option maxHeartbeats 8000000 in
set_option maxRecDepth 100000 in
theorem money_rounded.calls (k : Nat) (a0 : Int) (a1 : Int) (a2 : Int) (a3 : Bool) (a4 : Int) (r1 : Int) (r2 : Bool) (w : World) (h : money_rounded.f k a0 a1 a2 a3 a4 = some (r1, r2)) :
  Calls Tryd.prog 68 #[.int .u64 a0, .int .u64 a1, .int .u64 a2, .bool a3, .int .i64 a4] w fun e w' => e = .returned (.tuple #[.int .i64 r1, .bool r2]) ∧ Drawn0 w w' := by
 have H : (if a1 > 0 then (if a4 = 1 then (money_rounded.j0 k a0 a3 a3) else (if a4 = 2 then (money_rounded.j0 k a0 a3 (!a3)) else (if a4 = 4 then (if a1 > (IntKind.u64.wrap (a2 - a1)) then (money_rounded.j0 k a0 a3 true) else (if a1 = (IntKind.u64.wrap (a2 - a1)) then (money_rounded.j0 k a0 a3 (!a3)) else (money_rounded.j0 k a0 a3 false))) else (if a4 = 5 then (if a1 > (IntKind.u64.wrap (a2 - a1)) then (money_rounded.j0 k a0 a3 true) else (if a1 = (IntKind.u64.wrap (a2 - a1)) then (money_rounded.j0 k a0 a3 ((Int.tmod a0 2) == 1)) else (money_rounded.j0 k a0 a3 false))) else (money_rounded.j0 k a0 a3 false))))) else (money_rounded.j0 k a0 a3 false)) = some (r1, r2) := h
 clear h
 have HC6 := Aside0.mk H
 clear H
 go_enter Tryd.func68, Tryd.ntmps68
 go_upto_if 14 with (fail)
 go_cut [12] (fun v12 wc => ∃ (kq : Nat) (x12_5 : Bool), v12 = .bool x12_5 ∧ Aside0 (money_rounded.j0 kq a0 a3 x12_5 = some (r1, r2)) ∧ Aside0 (kq ≤ k) ∧ Drawn0 w wc)
 case first =>
  have H := HC6.out
  clear HC6
  by_cases c7 : a1 > 0
  ·rw [if_pos c7] at H
   have c7b0 : decide (0 < a1) = true := decide_eq_true c7
   clear c7
   (first | rw [c7b0] | (simp only [i64_w, i32_w]; rw [c7b0]) | skip)
   by_cases c8 : a4 = 1
   ·rw [if_pos c8] at H
    have c8b0 : (a4 == 1) = true := beq_iff_eq.mpr c8
    have c8b1 : (a4 != 1) = false := bne_eq_false_iff_eq.mpr c8
    clear c8
    have H' := Aside0.mk H
    clear H
    go_wp2
    go_meet
    case rel => exact ⟨_, (a3), (by first | rfl | (simp; done) | (simp [*]; done)), H', ⟨by first | omega | exact Nat.le_refl _⟩, by repeat (first | exact Drawn0.refl _ | apply Drawn0.step)⟩
   ·rw [if_neg c8] at H
    have c8b0 : (a4 == 1) = false := beq_eq_false_iff_ne.mpr c8
    have c8b1 : (a4 != 1) = true := bne_iff_ne.mpr c8
    by_cases c9 : a4 = 2
    ·rw [if_pos c9] at H
     have c9b0 : (a4 == 2) = true := beq_iff_eq.mpr c9
     have c9b1 : (a4 != 2) = false := bne_eq_false_iff_eq.mpr c9
     clear c9
     have H' := Aside0.mk H
     clear H
     go_wp2
     go_meet
     case rel => exact ⟨_, (!a3), (by first | rfl | (simp; done) | (simp [*]; done)), H', ⟨by first | omega | exact Nat.le_refl _⟩, by repeat (first | exact Drawn0.refl _ | apply Drawn0.step)⟩
    ·rw [if_neg c9] at H
     have c9b0 : (a4 == 2) = false := beq_eq_false_iff_ne.mpr c9
     have c9b1 : (a4 != 2) = true := bne_iff_ne.mpr c9
     by_cases c10 : a4 = 4
     ·rw [if_pos c10] at H
      have c10b0 : (a4 == 4) = true := beq_iff_eq.mpr c10
      have c10b1 : (a4 != 4) = false := bne_eq_false_iff_eq.mpr c10
      clear c10
      by_cases c11 : a1 > (IntKind.u64.wrap (a2 - a1))
      ·rw [if_pos c11] at H
       have c11b0 : decide ((IntKind.u64.wrap (a2 - a1)) < a1) = true := decide_eq_true c11
       clear c11
       have H' := Aside0.mk H
       clear H
       go_wp2
       go_meet
       case rel => exact ⟨_, (true), (by first | rfl | (simp; done) | (simp [*]; done)), H', ⟨by first | omega | exact Nat.le_refl _⟩, by repeat (first | exact Drawn0.refl _ | apply Drawn0.step)⟩
      ·rw [if_neg c11] at H
       have c11b0 : decide ((IntKind.u64.wrap (a2 - a1)) < a1) = false := decide_eq_false c11
       clear c11
       by_cases c12 : a1 = (IntKind.u64.wrap (a2 - a1))
       ·rw [if_pos c12] at H
        have c12b0 : (a1 == (IntKind.u64.wrap (a2 - a1))) = true := beq_iff_eq.mpr c12
        have c12b1 : (a1 != (IntKind.u64.wrap (a2 - a1))) = false := bne_eq_false_iff_eq.mpr c12
        clear c12
        have H' := Aside0.mk H
        clear H
        go_wp2
        go_meet
        case rel => exact ⟨_, (!a3), (by first | rfl | (simp; done) | (simp [*]; done)), H', ⟨by first | omega | exact Nat.le_refl _⟩, by repeat (first | exact Drawn0.refl _ | apply Drawn0.step)⟩
       ·rw [if_neg c12] at H
        have c12b0 : (a1 == (IntKind.u64.wrap (a2 - a1))) = false := beq_eq_false_iff_ne.mpr c12
        have c12b1 : (a1 != (IntKind.u64.wrap (a2 - a1))) = true := bne_iff_ne.mpr c12
        have H' := Aside0.mk H
        clear H
        go_wp2
        go_meet
        case rel => exact ⟨_, (false), (by first | rfl | (simp; done) | (simp [*]; done)), H', ⟨by first | omega | exact Nat.le_refl _⟩, by repeat (first | exact Drawn0.refl _ | apply Drawn0.step)⟩
     ·rw [if_neg c10] at H
      have c10b0 : (a4 == 4) = false := beq_eq_false_iff_ne.mpr c10
      have c10b1 : (a4 != 4) = true := bne_iff_ne.mpr c10
      by_cases c13 : a4 = 5
      ·rw [if_pos c13] at H
       have c13b0 : (a4 == 5) = true := beq_iff_eq.mpr c13
       have c13b1 : (a4 != 5) = false := bne_eq_false_iff_eq.mpr c13
       clear c13
       by_cases c14 : a1 > (IntKind.u64.wrap (a2 - a1))
       ·rw [if_pos c14] at H
        have c14b0 : decide ((IntKind.u64.wrap (a2 - a1)) < a1) = true := decide_eq_true c14
        clear c14
        have H' := Aside0.mk H
        clear H
        go_wp2
        go_meet
        case rel => exact ⟨_, (true), (by first | rfl | (simp; done) | (simp [*]; done)), H', ⟨by first | omega | exact Nat.le_refl _⟩, by repeat (first | exact Drawn0.refl _ | apply Drawn0.step)⟩
       ·rw [if_neg c14] at H
        have c14b0 : decide ((IntKind.u64.wrap (a2 - a1)) < a1) = false := decide_eq_false c14
        clear c14
        by_cases c15 : a1 = (IntKind.u64.wrap (a2 - a1))
        ·rw [if_pos c15] at H
         have c15b0 : (a1 == (IntKind.u64.wrap (a2 - a1))) = true := beq_iff_eq.mpr c15
         have c15b1 : (a1 != (IntKind.u64.wrap (a2 - a1))) = false := bne_eq_false_iff_eq.mpr c15
         clear c15
         have H' := Aside0.mk H
         clear H
         go_wp2
         go_meet
         case rel => exact ⟨_, (((Int.tmod a0 2) == 1)), (by first | rfl | (simp; done) | (simp [*]; done)), H', ⟨by first | omega | exact Nat.le_refl _⟩, by repeat (first | exact Drawn0.refl _ | apply Drawn0.step)⟩
        ·rw [if_neg c15] at H
         have c15b0 : (a1 == (IntKind.u64.wrap (a2 - a1))) = false := beq_eq_false_iff_ne.mpr c15
         have c15b1 : (a1 != (IntKind.u64.wrap (a2 - a1))) = true := bne_iff_ne.mpr c15
         have H' := Aside0.mk H
         clear H
         go_wp2
         go_meet
         case rel => exact ⟨_, (false), (by first | rfl | (simp; done) | (simp [*]; done)), H', ⟨by first | omega | exact Nat.le_refl _⟩, by repeat (first | exact Drawn0.refl _ | apply Drawn0.step)⟩
      ·rw [if_neg c13] at H
       have c13b0 : (a4 == 5) = false := beq_eq_false_iff_ne.mpr c13
       have c13b1 : (a4 != 5) = true := bne_iff_ne.mpr c13
       have H' := Aside0.mk H
       clear H
       go_wp2
       go_meet
       case rel => exact ⟨_, (false), (by first | rfl | (simp; done) | (simp [*]; done)), H', ⟨by first | omega | exact Nat.le_refl _⟩, by repeat (first | exact Drawn0.refl _ | apply Drawn0.step)⟩
  ·rw [if_neg c7] at H
   have c7b0 : decide (0 < a1) = false := decide_eq_false c7
   clear c7
   (first | rw [c7b0] | (simp only [i64_w, i32_w]; rw [c7b0]) | skip)
   have H' := Aside0.mk H
   clear H
   go_wp2
   go_meet
   case rel => exact ⟨_, (false), (by first | rfl | (simp; done) | (simp [*]; done)), H', ⟨by first | omega | exact Nat.le_refl _⟩, by repeat (first | exact Drawn0.refl _ | apply Drawn0.step)⟩
 case rest =>
  clear HC6
  try clear c1
  try clear p2
  try clear c6
  try clear c7
  try clear c7b0
  try clear c8
  try clear c8b0
  try clear c8b1
  try clear c9
  try clear c9b0
  try clear c9b1
  try clear c10
  try clear c10b0
  try clear c10b1
  try clear c11
  try clear c11b0
  try clear c12
  try clear c12b0
  try clear c12b1
  try clear c13
  try clear c13b0
  try clear c13b1
  try clear c14
  try clear c14b0
  try clear c15
  try clear c15b0
  try clear c15b1
  obtain ⟨kq, x12_5, rfl, HA, HJ5, ⟨mc5, rfl⟩⟩ := hcut
  cases kq with
  | zero => exact absurd HA.out (by simp [money_rounded.j0])
  | succ kj5 =>
   have H := HA.out
   clear HA
   simp only [money_rounded.j0] at H
   by_cases c16 : a0 > 4611686018427387904
   ·rw [if_pos c16] at H
    have c16b0 : decide (4611686018427387904 < a0) = true := decide_eq_true c16
    clear c16
    simp only [Option.some.injEq, Prod.mk.injEq] at H
    obtain ⟨rfl, rfl⟩ := H
    go_wp2
    go_ret2
    exact ⟨by first | rfl | (simp; done) | (simp [*]; done), by repeat (first | exact Drawn0.refl _ | apply Drawn0.step)⟩
   ·rw [if_neg c16] at H
    have c16b0 : decide (4611686018427387904 < a0) = false := decide_eq_false c16
    clear c16
    by_cases c17 : x12_5 = true
    ·subst c17
     have H1 : (if a3 = true then (some (wrap64 (-(wrap64 (IntKind.u64.wrap (a0 + 1)))), true)) else (some (wrap64 (IntKind.u64.wrap (a0 + 1)), true))) = some (r1, r2) := by rw [if_pos rfl] at H; exact H
     clear H
     have H := H1
     clear H1
     by_cases c18 : a3 = true
     ·subst c18
      have H1 : (some (wrap64 (-(wrap64 (IntKind.u64.wrap (a0 + 1)))), true)) = some (r1, r2) := by rw [if_pos rfl] at H; exact H
      clear H
      have H := H1
      clear H1
      simp only [Option.some.injEq, Prod.mk.injEq] at H
      obtain ⟨rfl, rfl⟩ := H
      go_wp2
      go_ret2
      exact ⟨by first | rfl | (simp; done) | (simp [*]; done), by repeat (first | exact Drawn0.refl _ | apply Drawn0.step)⟩
     ·replace c18 := Bool.eq_false_iff.mpr c18
      subst c18
      have H1 : (some (wrap64 (IntKind.u64.wrap (a0 + 1)), true)) = some (r1, r2) := by rw [if_neg (show ¬ (false = true) by decide)] at H; exact H
      clear H
      have H := H1
      clear H1
      simp only [Option.some.injEq, Prod.mk.injEq] at H
      obtain ⟨rfl, rfl⟩ := H
      go_wp2
      go_ret2
      exact ⟨by first | rfl | (simp; done) | (simp [*]; done), by repeat (first | exact Drawn0.refl _ | apply Drawn0.step)⟩
    ·replace c17 := Bool.eq_false_iff.mpr c17
     subst c17
     have H1 : (if a3 = true then (some (wrap64 (-(wrap64 (a0))), true)) else (some (wrap64 (a0), true))) = some (r1, r2) := by rw [if_neg (show ¬ (false = true) by decide)] at H; exact H
     clear H
     have H := H1
     clear H1
     by_cases c19 : a3 = true
     ·subst c19
      have H1 : (some (wrap64 (-(wrap64 (a0))), true)) = some (r1, r2) := by rw [if_pos rfl] at H; exact H
      clear H
      have H := H1
      clear H1
      simp only [Option.some.injEq, Prod.mk.injEq] at H
      obtain ⟨rfl, rfl⟩ := H
      go_wp2
      go_ret2
      exact ⟨by first | rfl | (simp; done) | (simp [*]; done), by repeat (first | exact Drawn0.refl _ | apply Drawn0.step)⟩
     ·replace c19 := Bool.eq_false_iff.mpr c19
      subst c19
      have H1 : (some (wrap64 (a0), true)) = some (r1, r2) := by rw [if_neg (show ¬ (false = true) by decide)] at H; exact H
      clear H
      have H := H1
      clear H1
      simp only [Option.some.injEq, Prod.mk.injEq] at H
      obtain ⟨rfl, rfl⟩ := H
      go_wp2
      go_ret2
      exact ⟨by first | rfl | (simp; done) | (simp [*]; done), by repeat (first | exact Drawn0.refl _ | apply Drawn0.step)⟩
end Go.Proofs.YtnjhjaifmgjljaaDoor.PM
end

section
namespace Go.Proofs.YtnjhjaifmgjljaaDoor.PM
open Go.RowKit Go.Proofs.YtnjhjaifmgjljaaDoorW.PrintWords Go.Proofs.YtnjhjaifmgjljaaDoorW.PrintLast Go.Proofs.YtnjhjaifmgjljaaDoorW.PrintMore
attribute [local go_sem] max2_int min2_int max_two min_two max_three min_three max_four min_four
set_option linter.unusedVariables false
set_option linter.unusedSimpArgs false
def money_cents.f (a0 : Int) : Option (Int × Int) := (money_checked.f 1 a0).bind fun bt448 => (some (bt448.1, bt448.2))
set_option maxHeartbeats 8000000 in
set_option maxRecDepth 100000 in
theorem money_cents.calls (a0 : Int) (r1 : Int) (r2 : Int) (w : World) (h : money_cents.f a0 = some (r1, r2)) (hg0 : Kd.C k87 w (some ⟨0, 0, none⟩) gtab0.length gtab0) :
  Calls Tryd.prog 69 #[.int .i64 a0] w fun e w' => e = .returned (.agg #[.int .i64 r1, .int .i64 r2]) ∧ Below w.heap.size w w' := by
 have HG0 := Aside0.mk hg0
 clear hg0
 have hu23 := Tryd.underlying23
 have HB := Aside0.mk (Below.refl w.heap.size w)
 have H : ((money_checked.f 1 a0).bind fun bt448 => (some (bt448.1, bt448.2))) = some (r1, r2) := h
 clear h
 replace H := Option.bind_eq_some_iff.mp H
 obtain ⟨⟨t448, t449⟩, A20, H⟩ := H
 replace H : (some (t448, t449)) = some (r1, r2) := H
 have A2 := Aside0.mk A20
 clear A20
 simp only [Option.some.injEq, Prod.mk.injEq] at H
 obtain ⟨rfl, rfl⟩ := H
 go_enter Tryd.func69, Tryd.ntmps69
 go_wp2_with (first | ((with_reducible refine gate_dst (N := 2) rfl ?_); refine bxe (N := 2) (cs := #[.int .i64 0, .int .i64 0]) (t := 23) ?_; intro gb447 hg w3 hbox hb; have BK447 := Aside0.mk (hbox); have GW447 : Aside0 (w.heap.size ≤ gb447) := gwx hg; have GE447 : Aside0 (w.heap.size ≤ gb447) := gwx hg; replace HB := Aside0.mk (below_step blx hb); clear hb hbox hg) | ((with_reducible refine gate_callee (f := 60) rfl ?_); refine goesL_ (some 4) rfl rfl Tryd.func60 (by kernel_rfl) rfl #[.int .i64 1, .int .i64 a0] rfl agx ?_; (with_reducible refine (money_checked.calls 1 a0 t448 t449 _ A2.out (by first | exact HG0.out | exact Kd.C_below HG0.out blx)).mono ?_); rintro e w4 ⟨rfl, hb⟩; refine ⟨_, rfl, ?_⟩; replace BK447 := bkq BK447 hb; replace HB := Aside0.mk (below_step blx hb); (try clear hb); (try clear hb2); (try clear hk); (try clear hi); obtain ⟨hcz5_0, hcz5_1, hfz5_0, hfz5_1⟩ := c2_ BK447))
 refine bodyPost_ret (results_cell_row rfl _ _ gb447 23 #[.int .i64 t448, .int .i64 t449] (0, 0) _ rfl (by (with_reducible repeat (first | refine blk_drewN ?_ _ | refine blk_drew ?_ | refine blk_alloc ?_ _)); refine blk_put (cs := #[.int .i64 t448, .int .i64 0]) ?_ 1 _ rfl; (with_reducible repeat (first | refine blk_drewN ?_ _ | refine blk_drew ?_ | refine blk_alloc ?_ _)); refine blk_put (cs := #[.int .i64 0, .int .i64 0]) ?_ 0 _ rfl; (with_reducible repeat (first | refine blk_drewN ?_ _ | refine blk_drew ?_ | refine blk_alloc ?_ _)); exact BK447.out) Tryd.underlying23 rfl (by kernel_rfl)) rfl ?_
 exact ⟨by first | rfl | (simp [errW_none, errW_some] <;> rfl) | (simp [*, errW_none, errW_some] <;> rfl), blx⟩
end Go.Proofs.YtnjhjaifmgjljaaDoor.PM
end

section
namespace Go.Proofs.YtnjhjaifmgjljaaDoor.PM
open Go.RowKit Go.Proofs.YtnjhjaifmgjljaaDoorW.PrintWords Go.Proofs.YtnjhjaifmgjljaaDoorW.PrintLast Go.Proofs.YtnjhjaifmgjljaaDoorW.PrintMore
attribute [local go_sem] max2_int min2_int max_two min_two max_three min_three max_four min_four
set_option linter.unusedVariables false
set_option linter.unusedSimpArgs false
def money_Round.j0 : Nat → Int → Int → Bool → Int → Int → Option (Int × Int)
 | 0, _, _, _, _, _ => none
 | k + 1, x1, x2, x38, x451000, x451001 => if x38 = true then ((money_fault.f 5).bind fun bt460 => (some (bt460.1, bt460.2))) else ((money_amount.f x451001).bind fun bt462 => (if (IntKind.u64.wrap (x1)) = 0 then (none) else ((money_rounded.f k (IntKind.u64.wrap (Int.tdiv bt462.1 (IntKind.u64.wrap (x1)))) (Int.tmod bt462.1 (IntKind.u64.wrap (x1))) (IntKind.u64.wrap (x1)) bt462.2 x2).bind fun bt464 => ((money_cents.f (wrap64 (bt464.1 * x1))).bind fun bt466 => (some (bt466.1, bt466.2))))))
def money_Round.f (k : Nat) (a0_0 : Int) (a0_1 : Int) (a1 : Int) (a2 : Int) : Option (Int × Int) := (money_seen.f k (([(⟨a0_0, a0_1⟩ : S23)] : List (S23)))).bind fun bt455 => (if bt455.2.2 = true then (if a0_0 = 1 then (if a1 < 1 then (money_Round.j0 k a1 a2 true a0_0 a0_1) else (if a1 > 9999999999999 then (money_Round.j0 k a1 a2 true a0_0 a0_1) else ((money_modes.f a2).bind fun t459 => (money_Round.j0 k a1 a2 (!t459) a0_0 a0_1)))) else (money_Round.j0 k a1 a2 true a0_0 a0_1)) else (some (bt455.1, bt455.2.1)))
theorem money_Round.mono_l : ∀ k, (∀ y0 y1 y2 y3 y4, LeO (money_Round.j0 k y0 y1 y2 y3 y4) (money_Round.j0 (k + 1) y0 y1 y2 y3 y4))
 | 0 => fun _ _ _ _ _ r h => by simp [money_Round.j0] at h
 | k + 1 => by
  have ih0 := money_Round.mono_l k
  ·intro y0 y1 y2 y3 y4
   unfold money_Round.j0
   repeat' first
   | (with_reducible exact ih0 _ _ _ _ _)
   | (with_reducible exact money_rounded.mono _ _ _ _ _ _)
   | (with_reducible exact money_seen.mono _ _)
   | (with_reducible exact LeO.refl _)
   | (with_reducible exact LeO.none _)
   | (with_reducible refine LeO.ite ?_ ?_)
   | (with_reducible refine LeO.bind ?_ (fun _ => ?_))
   | exact ih0 _ _ _ _ _
   | exact money_rounded.mono _ _ _ _ _ _
   | exact money_seen.mono _ _
   | exact LeO.none _
   | refine LeO.ite ?_ ?_
   | refine LeO.bind ?_ (fun _ => ?_)
theorem money_Round.mono : ∀ a0 a1 a2 a3 k, LeO (money_Round.f k a0 a1 a2 a3) (money_Round.f (k + 1) a0 a1 a2 a3) := by
 intro a0 a1 a2 a3 k
 have ih0 := money_Round.mono_l k
 unfold money_Round.f
 repeat' first
   | (with_reducible exact ih0 _ _ _ _ _)
   | (with_reducible exact money_rounded.mono _ _ _ _ _ _)
   | (with_reducible exact money_seen.mono _ _)
   | (with_reducible exact LeO.refl _)
   | (with_reducible exact LeO.none _)
   | (with_reducible refine LeO.ite ?_ ?_)
   | (with_reducible refine LeO.bind ?_ (fun _ => ?_))
   | exact ih0 _ _ _ _ _
   | exact money_rounded.mono _ _ _ _ _ _
   | exact money_seen.mono _ _
   | exact LeO.none _
   | refine LeO.ite ?_ ?_
   | refine LeO.bind ?_ (fun _ => ?_)
set_option maxHeartbeats 8000000 in
set_option maxRecDepth 100000 in
theorem money_Round.calls (k : Nat) (a0_0 : Int) (a0_1 : Int) (a1 : Int) (a2 : Int) (r1 : Int) (r2 : Int) (w : World) (h : money_Round.f k a0_0 a0_1 a1 a2 = some (r1, r2)) (hg0 : Kd.C k87 w (some ⟨0, 0, none⟩) gtab0.length gtab0) :
  Calls Tryd.prog 39 #[.agg #[.int .i64 a0_0, .int .i64 a0_1], .int .i64 a1, .int .i64 a2] w fun e w' => e = .returned (.agg #[.int .i64 r1, .int .i64 r2]) ∧ Below w.heap.size w w' := by
 have HG0 := Aside0.mk hg0
 clear hg0
 have hu23 := Tryd.underlying23
 have HB := Aside0.mk (Below.refl w.heap.size w)
 have H : ((money_seen.f k (([(⟨a0_0, a0_1⟩ : S23)] : List (S23)))).bind fun bt455 => (if bt455.2.2 = true then (if a0_0 = 1 then (if a1 < 1 then (money_Round.j0 k a1 a2 true a0_0 a0_1) else (if a1 > 9999999999999 then (money_Round.j0 k a1 a2 true a0_0 a0_1) else ((money_modes.f a2).bind fun t459 => (money_Round.j0 k a1 a2 (!t459) a0_0 a0_1)))) else (money_Round.j0 k a1 a2 true a0_0 a0_1)) else (some (bt455.1, bt455.2.1)))) = some (r1, r2) := h
 clear h
 obtain ⟨y452, hy452⟩ : ∃ y_ : List (S23), y_ = (([(⟨a0_0, a0_1⟩ : S23)] : List (S23))) := ⟨_, rfl⟩
 replace H : ((money_seen.f k y452).bind fun bt455 => (if bt455.2.2 = true then (if a0_0 = 1 then (if a1 < 1 then (money_Round.j0 k a1 a2 true a0_0 a0_1) else (if a1 > 9999999999999 then (money_Round.j0 k a1 a2 true a0_0 a0_1) else ((money_modes.f a2).bind fun t459 => (money_Round.j0 k a1 a2 (!t459) a0_0 a0_1)))) else (money_Round.j0 k a1 a2 true a0_0 a0_1)) else (some (bt455.1, bt455.2.1)))) = some (r1, r2) := by first | (rw [hy452]; with_reducible exact H) | (have H2_ := (Option.bind_some _ _).symm.trans H; rw [hy452]; with_reducible exact H2_) | (have H2_ := (Option.bind_some _ _).symm.trans H; with_reducible exact H2_) | with_reducible exact H | (rw [hy452]; exact H) | exact H
 have Ny452 := Aside0.mk hy452
 clear hy452
 replace H := Option.bind_eq_some_iff.mp H
 obtain ⟨⟨t455, t456, t457⟩, A40, H⟩ := H
 replace H : (if t457 = true then (if a0_0 = 1 then (if a1 < 1 then (money_Round.j0 k a1 a2 true a0_0 a0_1) else (if a1 > 9999999999999 then (money_Round.j0 k a1 a2 true a0_0 a0_1) else ((money_modes.f a2).bind fun t459 => (money_Round.j0 k a1 a2 (!t459) a0_0 a0_1)))) else (money_Round.j0 k a1 a2 true a0_0 a0_1)) else (some (t455, t456))) = some (r1, r2) := H
 have A4 := Aside0.mk A40
 clear A40
 by_cases c5 : t457 = true
 ·subst c5
  have H1 : (if a0_0 = 1 then (if a1 < 1 then (money_Round.j0 k a1 a2 true a0_0 a0_1) else (if a1 > 9999999999999 then (money_Round.j0 k a1 a2 true a0_0 a0_1) else ((money_modes.f a2).bind fun t459 => (money_Round.j0 k a1 a2 (!t459) a0_0 a0_1)))) else (money_Round.j0 k a1 a2 true a0_0 a0_1)) = some (r1, r2) := by rw [if_pos rfl] at H; exact H
  clear H
  have H := H1
  clear H1
  have HC6 := Aside0.mk H
  clear H
  go_enter Tryd.func39, Tryd.ntmps39
  go_upto_region 4 with (first | ((with_reducible refine gate_dst (N := 3) rfl ?_); refine bxe (N := 3) (cs := #[.int .i64 a0_0, .int .i64 a0_1]) (t := 23) ?_; intro gb450 hg w7 hbox hb; have BK450 := Aside0.mk (hbox); have GW450 : Aside0 (w.heap.size ≤ gb450) := gwx hg; have GE450 : Aside0 (w.heap.size ≤ gb450) := gwx hg; replace HB := Aside0.mk (below_step blx hb); clear hb hbox hg) | ((with_reducible refine gate_dst (N := 6) rfl ?_); refine bxe (N := 6) (cs := #[.int .i64 0, .int .i64 0]) (t := 23) ?_; intro gb451 hg w8 hbox hb; have BK451 := Aside0.mk (hbox); have GW451 : Aside0 (w.heap.size ≤ gb451) := gwx hg; have GE451 : Aside0 (w.heap.size ≤ gb451) := gwx hg; replace HB := Aside0.mk (below_step blx hb); have NB450_451 := nbl BK450 hg; have NB451_450 := nbg BK450 hg; replace BK450 := bkq BK450 hb; clear hb hbox hg; have hnb9 := NB450_451.out; have hnc9 := NB451_450.out; obtain ⟨hcz10_0, hcz10_1, hfz10_0, hfz10_1⟩ := c2_ BK450) | ((with_reducible refine gate_dst (N := 16) rfl ?_); refine Kd.R_lit k23 _ 23 ?hg (N := 16) ?hd (xs := ([(⟨a0_0, a0_1⟩ : S23)] : List (S23))) (inner := [.int .i64 a0_0, .int .i64 a0_1]) (ok := fun _ => True) (okp := fun _ => True) ?hr ?hp (fun _ hk => hk) trivial (Below.refl _ _) (Nat.le_refl _) (by simp) ?_; (case hd => rfl); (case hg => rfl); (case hr => first | (go_simp; done) | (go_simp; rfl)); (case hp => exact (Reps.c2 (show Kd.M k23 _ _ _ (⟨a0_0, a0_1⟩ : S23) [.int .i64 a0_0, .int .i64 a0_1] from (k23_mkM _ _ _ (⟨a0_0, a0_1⟩ : S23) )) (Reps.none _ _))); intro v453 w11 ho12 hb hg_ hnew_; clear hg_ hnew_; (first | rw [← Ny452.out] at ho12 | (simp only [Int.reduceToNat] at ho12; rw [← Ny452.out] at ho12)); have HO454 := Aside0.mk (Kd.R_lower (Kd.R_newB (Kd.R_newB ho12 (g := gb450) (o := .cells #[.int .i64 a0_0, .int .i64 a0_1] 23 (0, 0)) bkx) (g := gb451) (o := .cells #[.int .i64 0, .int .i64 0] 23 (0, 0)) bkx) (below_size blx)); replace BK450 := bkq BK450 hb; replace BK451 := bkq BK451 hb; replace HB := Aside0.mk (below_step blx hb); clear hb ho12; obtain ⟨Ao13, co13, eo13⟩ := Kd.R_slice HO454.out; subst eo13) | (go_at_call 65; (with_reducible refine (money_seen.calls k _ _ y452 t455 t456 true _ ?side1 ?side2 A4.out (by first | exact HG0.out | exact Kd.C_below HG0.out blx)).mono ?_); (case side1 => exact crx HO454); (case side2 => exact (Kd.R_reads' HO454.out).2.1); rintro e w14 ⟨rfl, hb⟩; replace HO454 := hoq HO454 hb; replace BK450 := bkq BK450 hb; replace BK451 := bkq BK451 hb; replace HB := Aside0.mk (below_step blx hb); (try clear hb); (try clear hb2); (try clear hk); (try clear hi)) | ((with_reducible refine gate_dst (N := 7) rfl ?_); refine bxe (N := 7) (cs := #[.int .i64 0, .int .i64 0]) (t := 23) ?_; intro gb458 hg w15 hbox hb; replace HO454 := Aside0.mk (Kd.R_below (Kd.R_elderB (by (with_reducible repeat (first | apply Kd.R_alloc | apply Kd.R_drewN | apply Kd.R_drew)); exact HO454.out) gb458 (Nat.le_of_eq hg.symm)) hb); have BK458 := Aside0.mk (hbox); have GW458 : Aside0 (w.heap.size ≤ gb458) := gwx hg; have GE458 : Aside0 (w.heap.size ≤ gb458) := gwx hg; replace HB := Aside0.mk (below_step blx hb); have NB450_458 := nbl BK450 hg; have NB458_450 := nbg BK450 hg; replace BK450 := bkq BK450 hb; have NB451_458 := nbl BK451 hg; have NB458_451 := nbg BK451 hg; replace BK451 := bkq BK451 hb; clear hb hbox hg; have hnb16 := NB458_450.out; have hnc16 := NB450_458.out; have hnb17 := NB458_451.out; have hnc17 := NB451_458.out; obtain ⟨hcz18_0, hcz18_1, hfz18_0, hfz18_1⟩ := c2_ BK458))
  repeat (go_quiet (first | ((with_reducible refine gate_dst (N := 3) rfl ?_); refine bxe (N := 3) (cs := #[.int .i64 a0_0, .int .i64 a0_1]) (t := 23) ?_; intro gb450 hg w7 hbox hb; have BK450 := Aside0.mk (hbox); have GW450 : Aside0 (w.heap.size ≤ gb450) := gwx hg; have GE450 : Aside0 (w.heap.size ≤ gb450) := gwx hg; replace HB := Aside0.mk (below_step blx hb); clear hb hbox hg) | ((with_reducible refine gate_dst (N := 6) rfl ?_); refine bxe (N := 6) (cs := #[.int .i64 0, .int .i64 0]) (t := 23) ?_; intro gb451 hg w8 hbox hb; have BK451 := Aside0.mk (hbox); have GW451 : Aside0 (w.heap.size ≤ gb451) := gwx hg; have GE451 : Aside0 (w.heap.size ≤ gb451) := gwx hg; replace HB := Aside0.mk (below_step blx hb); have NB450_451 := nbl BK450 hg; have NB451_450 := nbg BK450 hg; replace BK450 := bkq BK450 hb; clear hb hbox hg; have hnb9 := NB450_451.out; have hnc9 := NB451_450.out; obtain ⟨hcz10_0, hcz10_1, hfz10_0, hfz10_1⟩ := c2_ BK450) | ((with_reducible refine gate_dst (N := 16) rfl ?_); refine Kd.R_lit k23 _ 23 ?hg (N := 16) ?hd (xs := ([(⟨a0_0, a0_1⟩ : S23)] : List (S23))) (inner := [.int .i64 a0_0, .int .i64 a0_1]) (ok := fun _ => True) (okp := fun _ => True) ?hr ?hp (fun _ hk => hk) trivial (Below.refl _ _) (Nat.le_refl _) (by simp) ?_; (case hd => rfl); (case hg => rfl); (case hr => first | (go_simp; done) | (go_simp; rfl)); (case hp => exact (Reps.c2 (show Kd.M k23 _ _ _ (⟨a0_0, a0_1⟩ : S23) [.int .i64 a0_0, .int .i64 a0_1] from (k23_mkM _ _ _ (⟨a0_0, a0_1⟩ : S23) )) (Reps.none _ _))); intro v453 w11 ho12 hb hg_ hnew_; clear hg_ hnew_; (first | rw [← Ny452.out] at ho12 | (simp only [Int.reduceToNat] at ho12; rw [← Ny452.out] at ho12)); have HO454 := Aside0.mk (Kd.R_lower (Kd.R_newB (Kd.R_newB ho12 (g := gb450) (o := .cells #[.int .i64 a0_0, .int .i64 a0_1] 23 (0, 0)) bkx) (g := gb451) (o := .cells #[.int .i64 0, .int .i64 0] 23 (0, 0)) bkx) (below_size blx)); replace BK450 := bkq BK450 hb; replace BK451 := bkq BK451 hb; replace HB := Aside0.mk (below_step blx hb); clear hb ho12; obtain ⟨Ao13, co13, eo13⟩ := Kd.R_slice HO454.out; subst eo13) | (go_at_call 65; (with_reducible refine (money_seen.calls k _ _ y452 t455 t456 true _ ?side1 ?side2 A4.out (by first | exact HG0.out | exact Kd.C_below HG0.out blx)).mono ?_); (case side1 => exact crx HO454); (case side2 => exact (Kd.R_reads' HO454.out).2.1); rintro e w14 ⟨rfl, hb⟩; replace HO454 := hoq HO454 hb; replace BK450 := bkq BK450 hb; replace BK451 := bkq BK451 hb; replace HB := Aside0.mk (below_step blx hb); (try clear hb); (try clear hb2); (try clear hk); (try clear hi)) | ((with_reducible refine gate_dst (N := 7) rfl ?_); refine bxe (N := 7) (cs := #[.int .i64 0, .int .i64 0]) (t := 23) ?_; intro gb458 hg w15 hbox hb; replace HO454 := Aside0.mk (Kd.R_below (Kd.R_elderB (by (with_reducible repeat (first | apply Kd.R_alloc | apply Kd.R_drewN | apply Kd.R_drew)); exact HO454.out) gb458 (Nat.le_of_eq hg.symm)) hb); have BK458 := Aside0.mk (hbox); have GW458 : Aside0 (w.heap.size ≤ gb458) := gwx hg; have GE458 : Aside0 (w.heap.size ≤ gb458) := gwx hg; replace HB := Aside0.mk (below_step blx hb); have NB450_458 := nbl BK450 hg; have NB458_450 := nbg BK450 hg; replace BK450 := bkq BK450 hb; have NB451_458 := nbl BK451 hg; have NB458_451 := nbg BK451 hg; replace BK451 := bkq BK451 hb; clear hb hbox hg; have hnb16 := NB458_450.out; have hnc16 := NB450_458.out; have hnb17 := NB458_451.out; have hnc17 := NB451_458.out; obtain ⟨hcz18_0, hcz18_1, hfz18_0, hfz18_1⟩ := c2_ BK458)); go_upto_region 4 with (first | ((with_reducible refine gate_dst (N := 3) rfl ?_); refine bxe (N := 3) (cs := #[.int .i64 a0_0, .int .i64 a0_1]) (t := 23) ?_; intro gb450 hg w7 hbox hb; have BK450 := Aside0.mk (hbox); have GW450 : Aside0 (w.heap.size ≤ gb450) := gwx hg; have GE450 : Aside0 (w.heap.size ≤ gb450) := gwx hg; replace HB := Aside0.mk (below_step blx hb); clear hb hbox hg) | ((with_reducible refine gate_dst (N := 6) rfl ?_); refine bxe (N := 6) (cs := #[.int .i64 0, .int .i64 0]) (t := 23) ?_; intro gb451 hg w8 hbox hb; have BK451 := Aside0.mk (hbox); have GW451 : Aside0 (w.heap.size ≤ gb451) := gwx hg; have GE451 : Aside0 (w.heap.size ≤ gb451) := gwx hg; replace HB := Aside0.mk (below_step blx hb); have NB450_451 := nbl BK450 hg; have NB451_450 := nbg BK450 hg; replace BK450 := bkq BK450 hb; clear hb hbox hg; have hnb9 := NB450_451.out; have hnc9 := NB451_450.out; obtain ⟨hcz10_0, hcz10_1, hfz10_0, hfz10_1⟩ := c2_ BK450) | ((with_reducible refine gate_dst (N := 16) rfl ?_); refine Kd.R_lit k23 _ 23 ?hg (N := 16) ?hd (xs := ([(⟨a0_0, a0_1⟩ : S23)] : List (S23))) (inner := [.int .i64 a0_0, .int .i64 a0_1]) (ok := fun _ => True) (okp := fun _ => True) ?hr ?hp (fun _ hk => hk) trivial (Below.refl _ _) (Nat.le_refl _) (by simp) ?_; (case hd => rfl); (case hg => rfl); (case hr => first | (go_simp; done) | (go_simp; rfl)); (case hp => exact (Reps.c2 (show Kd.M k23 _ _ _ (⟨a0_0, a0_1⟩ : S23) [.int .i64 a0_0, .int .i64 a0_1] from (k23_mkM _ _ _ (⟨a0_0, a0_1⟩ : S23) )) (Reps.none _ _))); intro v453 w11 ho12 hb hg_ hnew_; clear hg_ hnew_; (first | rw [← Ny452.out] at ho12 | (simp only [Int.reduceToNat] at ho12; rw [← Ny452.out] at ho12)); have HO454 := Aside0.mk (Kd.R_lower (Kd.R_newB (Kd.R_newB ho12 (g := gb450) (o := .cells #[.int .i64 a0_0, .int .i64 a0_1] 23 (0, 0)) bkx) (g := gb451) (o := .cells #[.int .i64 0, .int .i64 0] 23 (0, 0)) bkx) (below_size blx)); replace BK450 := bkq BK450 hb; replace BK451 := bkq BK451 hb; replace HB := Aside0.mk (below_step blx hb); clear hb ho12; obtain ⟨Ao13, co13, eo13⟩ := Kd.R_slice HO454.out; subst eo13) | (go_at_call 65; (with_reducible refine (money_seen.calls k _ _ y452 t455 t456 true _ ?side1 ?side2 A4.out (by first | exact HG0.out | exact Kd.C_below HG0.out blx)).mono ?_); (case side1 => exact crx HO454); (case side2 => exact (Kd.R_reads' HO454.out).2.1); rintro e w14 ⟨rfl, hb⟩; replace HO454 := hoq HO454 hb; replace BK450 := bkq BK450 hb; replace BK451 := bkq BK451 hb; replace HB := Aside0.mk (below_step blx hb); (try clear hb); (try clear hb2); (try clear hk); (try clear hi)) | ((with_reducible refine gate_dst (N := 7) rfl ?_); refine bxe (N := 7) (cs := #[.int .i64 0, .int .i64 0]) (t := 23) ?_; intro gb458 hg w15 hbox hb; replace HO454 := Aside0.mk (Kd.R_below (Kd.R_elderB (by (with_reducible repeat (first | apply Kd.R_alloc | apply Kd.R_drewN | apply Kd.R_drew)); exact HO454.out) gb458 (Nat.le_of_eq hg.symm)) hb); have BK458 := Aside0.mk (hbox); have GW458 : Aside0 (w.heap.size ≤ gb458) := gwx hg; have GE458 : Aside0 (w.heap.size ≤ gb458) := gwx hg; replace HB := Aside0.mk (below_step blx hb); have NB450_458 := nbl BK450 hg; have NB458_450 := nbg BK450 hg; replace BK450 := bkq BK450 hb; have NB451_458 := nbl BK451 hg; have NB458_451 := nbg BK451 hg; replace BK451 := bkq BK451 hb; clear hb hbox hg; have hnb16 := NB458_450.out; have hnc16 := NB450_458.out; have hnb17 := NB458_451.out; have hnc17 := NB451_458.out; obtain ⟨hcz18_0, hcz18_1, hfz18_0, hfz18_1⟩ := c2_ BK458)))
  (try simp only [Act.put, List.setIfInBounds_toArray, List.set_cons_zero, List.set_cons_succ])
  go_cut [38] (fun v38 wc => ∃ (kq : Nat) (x38_5 : Bool), v38 = .bool x38_5 ∧ Aside0 (money_Round.j0 kq a1 a2 x38_5 a0_0 a0_1 = some (r1, r2)) ∧ Aside0 (kq ≤ k) ∧ Aside0 (wc.heap[gb450]? = some (.cells #[.int .i64 a0_0, .int .i64 a0_1] 23 (0, 0))) ∧ Aside0 (wc.heap[gb451]? = some (.cells #[.int .i64 0, .int .i64 0] 23 (0, 0))) ∧ Aside0 (wc.heap[gb458]? = some (.cells #[.int .i64 t455, .int .i64 t456] 23 (0, 0))) ∧ Aside0 (Below w.heap.size w wc))
  case first =>
   have H := HC6.out
   clear HC6
   by_cases c19 : a0_0 = 1
   ·rw [if_pos c19] at H
    have c19b0 : (a0_0 == 1) = true := beq_iff_eq.mpr c19
    have c19b1 : (a0_0 != 1) = false := bne_eq_false_iff_eq.mpr c19
    clear c19
    (first | rw [c19b0] | (simp only [i64_w, i32_w]; rw [c19b0]) | skip)
    by_cases c20 : a1 < 1
    ·rw [if_pos c20] at H
     have c20b0 : decide (a1 < 1) = true := decide_eq_true c20
     clear c20
     have H' := Aside0.mk H
     clear H
     have hnb21 := NB450_451.out
     have hnc21 := NB451_450.out
     have hnb22 := NB450_458.out
     have hnc22 := NB458_450.out
     obtain ⟨hcz23_0, hcz23_1, hfz23_0, hfz23_1⟩ := c2_ BK450
     go_wp2
     repeat (go_quiet (fail); try go_wp2)
     go_meet
     case rel => exact ⟨_, (true), (by first | rfl | (simp; done) | (simp [*]; done)), H', ⟨by first | omega | exact Nat.le_refl _⟩, ⟨bkx⟩, ⟨bkx⟩, ⟨by (with_reducible repeat (first | refine blk_drewN ?_ _ | refine blk_drew ?_ | refine blk_alloc ?_ _)); refine blk_put (cs := #[.int .i64 t455, .int .i64 0]) ?_ 1 _ rfl; (with_reducible repeat (first | refine blk_drewN ?_ _ | refine blk_drew ?_ | refine blk_alloc ?_ _)); refine blk_put (cs := #[.int .i64 0, .int .i64 0]) ?_ 0 _ rfl; (with_reducible repeat (first | refine blk_drewN ?_ _ | refine blk_drew ?_ | refine blk_alloc ?_ _)); exact BK458.out⟩, ⟨blx⟩⟩
    ·rw [if_neg c20] at H
     have c20b0 : decide (a1 < 1) = false := decide_eq_false c20
     clear c20
     by_cases c24 : a1 > 9999999999999
     ·rw [if_pos c24] at H
      have c24b0 : decide (9999999999999 < a1) = true := decide_eq_true c24
      clear c24
      have H' := Aside0.mk H
      clear H
      have hnb25 := NB450_451.out
      have hnc25 := NB451_450.out
      have hnb26 := NB450_458.out
      have hnc26 := NB458_450.out
      obtain ⟨hcz27_0, hcz27_1, hfz27_0, hfz27_1⟩ := c2_ BK450
      go_wp2
      repeat (go_quiet (fail); try go_wp2)
      go_meet
      case rel => exact ⟨_, (true), (by first | rfl | (simp; done) | (simp [*]; done)), H', ⟨by first | omega | exact Nat.le_refl _⟩, ⟨bkx⟩, ⟨bkx⟩, ⟨by (with_reducible repeat (first | refine blk_drewN ?_ _ | refine blk_drew ?_ | refine blk_alloc ?_ _)); refine blk_put (cs := #[.int .i64 t455, .int .i64 0]) ?_ 1 _ rfl; (with_reducible repeat (first | refine blk_drewN ?_ _ | refine blk_drew ?_ | refine blk_alloc ?_ _)); refine blk_put (cs := #[.int .i64 0, .int .i64 0]) ?_ 0 _ rfl; (with_reducible repeat (first | refine blk_drewN ?_ _ | refine blk_drew ?_ | refine blk_alloc ?_ _)); exact BK458.out⟩, ⟨blx⟩⟩
     ·rw [if_neg c24] at H
      have c24b0 : decide (9999999999999 < a1) = false := decide_eq_false c24
      clear c24
      replace H := Option.bind_eq_some_iff.mp H
      obtain ⟨t459, A280, H⟩ := H
      replace H : (money_Round.j0 k a1 a2 (!t459) a0_0 a0_1) = some (r1, r2) := H
      have A28 := Aside0.mk A280
      clear A280
      have H' := Aside0.mk H
      clear H
      have hnb29 := NB450_451.out
      have hnc29 := NB451_450.out
      have hnb30 := NB450_458.out
      have hnc30 := NB458_450.out
      obtain ⟨hcz31_0, hcz31_1, hfz31_0, hfz31_1⟩ := c2_ BK450
      go_wp2_with (first | (go_at_call 66; (with_reducible refine (money_modes.calls a2 t459 _ A28.out).mono ?_); rintro e w' ⟨rfl, ⟨nd, rfl⟩⟩; (try first | exact ⟨rfl, _, World.drewN_drewN _ _ _⟩ | exact ⟨rfl, _, Eq.trans (World.drewN_drewN _ _ _) (congrArg (World.drewN _) (Nat.add_assoc _ _ _))⟩)))
      repeat (go_quiet (first | (go_at_call 66; (with_reducible refine (money_modes.calls a2 t459 _ A28.out).mono ?_); rintro e w' ⟨rfl, ⟨nd, rfl⟩⟩; (try first | exact ⟨rfl, _, World.drewN_drewN _ _ _⟩ | exact ⟨rfl, _, Eq.trans (World.drewN_drewN _ _ _) (congrArg (World.drewN _) (Nat.add_assoc _ _ _))⟩))); try go_wp2_with (first | (go_at_call 66; (with_reducible refine (money_modes.calls a2 t459 _ A28.out).mono ?_); rintro e w' ⟨rfl, ⟨nd, rfl⟩⟩; (try first | exact ⟨rfl, _, World.drewN_drewN _ _ _⟩ | exact ⟨rfl, _, Eq.trans (World.drewN_drewN _ _ _) (congrArg (World.drewN _) (Nat.add_assoc _ _ _))⟩))))
      go_meet
      case rel => exact ⟨_, (!t459), (by first | rfl | (simp; done) | (simp [*]; done)), H', ⟨by first | omega | exact Nat.le_refl _⟩, ⟨bkx⟩, ⟨bkx⟩, ⟨by (with_reducible repeat (first | refine blk_drewN ?_ _ | refine blk_drew ?_ | refine blk_alloc ?_ _)); refine blk_put (cs := #[.int .i64 t455, .int .i64 0]) ?_ 1 _ rfl; (with_reducible repeat (first | refine blk_drewN ?_ _ | refine blk_drew ?_ | refine blk_alloc ?_ _)); refine blk_put (cs := #[.int .i64 0, .int .i64 0]) ?_ 0 _ rfl; (with_reducible repeat (first | refine blk_drewN ?_ _ | refine blk_drew ?_ | refine blk_alloc ?_ _)); exact BK458.out⟩, ⟨blx⟩⟩
   ·rw [if_neg c19] at H
    have c19b0 : (a0_0 == 1) = false := beq_eq_false_iff_ne.mpr c19
    have c19b1 : (a0_0 != 1) = true := bne_iff_ne.mpr c19
    (first | rw [c19b0] | (simp only [i64_w, i32_w]; rw [c19b0]) | skip)
    have H' := Aside0.mk H
    clear H
    have hnb32 := NB450_451.out
    have hnc32 := NB451_450.out
    have hnb33 := NB450_458.out
    have hnc33 := NB458_450.out
    obtain ⟨hcz34_0, hcz34_1, hfz34_0, hfz34_1⟩ := c2_ BK450
    go_wp2
    repeat (go_quiet (fail); try go_wp2)
    go_meet
    case rel => exact ⟨_, (true), (by first | rfl | (simp; done) | (simp [*]; done)), H', ⟨by first | omega | exact Nat.le_refl _⟩, ⟨bkx⟩, ⟨bkx⟩, ⟨by (with_reducible repeat (first | refine blk_drewN ?_ _ | refine blk_drew ?_ | refine blk_alloc ?_ _)); refine blk_put (cs := #[.int .i64 t455, .int .i64 0]) ?_ 1 _ rfl; (with_reducible repeat (first | refine blk_drewN ?_ _ | refine blk_drew ?_ | refine blk_alloc ?_ _)); refine blk_put (cs := #[.int .i64 0, .int .i64 0]) ?_ 0 _ rfl; (with_reducible repeat (first | refine blk_drewN ?_ _ | refine blk_drew ?_ | refine blk_alloc ?_ _)); exact BK458.out⟩, ⟨blx⟩⟩
  case rest =>
   clear HC6
   try clear c1
   try clear c2
   try clear p2
   try clear c3
   try clear c5
   try clear c9
   try clear c16
   try clear c17
   try clear c19
   try clear c19b0
   try clear c19b1
   try clear c20
   try clear c20b0
   try clear c21
   try clear c22
   try clear c24
   try clear c24b0
   try clear c25
   try clear c26
   try clear c29
   try clear c30
   try clear c32
   try clear c33
   try clear hcz10_0
   try clear hcz10_1
   try clear hcz18_0
   try clear hcz18_1
   try clear hcz23_0
   try clear hcz23_1
   try clear hcz27_0
   try clear hcz27_1
   try clear hcz31_0
   try clear hcz31_1
   try clear hcz34_0
   try clear hcz34_1
   try clear hfz10_0
   try clear hfz10_1
   try clear hfz18_0
   try clear hfz18_1
   try clear hfz23_0
   try clear hfz23_1
   try clear hfz27_0
   try clear hfz27_1
   try clear hfz31_0
   try clear hfz31_1
   try clear hfz34_0
   try clear hfz34_1
   obtain ⟨kq, x38_5, rfl, HA, HJ5, BK450, BK451, BK458, HB⟩ := hcut
   cases kq with
   | zero => exact absurd HA.out (by simp [money_Round.j0])
   | succ kj5 =>
    have H := HA.out
    clear HA
    simp only [money_Round.j0] at H
    by_cases c35 : x38_5 = true
    ·subst c35
     have H1 : ((money_fault.f 5).bind fun bt460 => (some (bt460.1, bt460.2))) = some (r1, r2) := by rw [if_pos rfl] at H; exact H
     clear H
     have H := H1
     clear H1
     replace H := Option.bind_eq_some_iff.mp H
     obtain ⟨⟨t460, t461⟩, A360, H⟩ := H
     replace H : (some (t460, t461)) = some (r1, r2) := H
     have A36 := Aside0.mk A360
     clear A360
     simp only [Option.some.injEq, Prod.mk.injEq] at H
     obtain ⟨rfl, rfl⟩ := H
     go_wp2_with (first | (go_at_call 59; (with_reducible refine (money_fault.calls 5 t460 t461 _ A36.out).mono ?_); rintro e w37 ⟨rfl, hb⟩; replace BK450 := bkq BK450 hb; replace BK451 := bkq BK451 hb; replace BK458 := bkq BK458 hb; replace HB := Aside0.mk (below_step blx hb); (try clear hb); (try clear hb2); (try clear hk); (try clear hi); have hnb38 := NB451_450.out; have hnc38 := NB450_451.out; have hnb39 := NB451_458.out; have hnc39 := NB458_451.out; obtain ⟨hcz40_0, hcz40_1, hfz40_0, hfz40_1⟩ := c2_ BK451))
     repeat (go_quiet (first | (go_at_call 59; (with_reducible refine (money_fault.calls 5 t460 t461 _ A36.out).mono ?_); rintro e w37 ⟨rfl, hb⟩; replace BK450 := bkq BK450 hb; replace BK451 := bkq BK451 hb; replace BK458 := bkq BK458 hb; replace HB := Aside0.mk (below_step blx hb); (try clear hb); (try clear hb2); (try clear hk); (try clear hi); have hnb38 := NB451_450.out; have hnc38 := NB450_451.out; have hnb39 := NB451_458.out; have hnc39 := NB458_451.out; obtain ⟨hcz40_0, hcz40_1, hfz40_0, hfz40_1⟩ := c2_ BK451)); try go_wp2_with (first | (go_at_call 59; (with_reducible refine (money_fault.calls 5 t460 t461 _ A36.out).mono ?_); rintro e w37 ⟨rfl, hb⟩; replace BK450 := bkq BK450 hb; replace BK451 := bkq BK451 hb; replace BK458 := bkq BK458 hb; replace HB := Aside0.mk (below_step blx hb); (try clear hb); (try clear hb2); (try clear hk); (try clear hi); have hnb38 := NB451_450.out; have hnc38 := NB450_451.out; have hnb39 := NB451_458.out; have hnc39 := NB458_451.out; obtain ⟨hcz40_0, hcz40_1, hfz40_0, hfz40_1⟩ := c2_ BK451)))
     refine bodyPost_ret (results_cell_row rfl _ _ gb451 23 #[.int .i64 t460, .int .i64 t461] (0, 0) _ rfl (by (with_reducible repeat (first | refine blk_drewN ?_ _ | refine blk_drew ?_ | refine blk_alloc ?_ _)); refine blk_put (cs := #[.int .i64 t460, .int .i64 0]) ?_ 1 _ rfl; (with_reducible repeat (first | refine blk_drewN ?_ _ | refine blk_drew ?_ | refine blk_alloc ?_ _)); refine blk_put (cs := #[.int .i64 0, .int .i64 0]) ?_ 0 _ rfl; (with_reducible repeat (first | refine blk_drewN ?_ _ | refine blk_drew ?_ | refine blk_alloc ?_ _)); exact BK451.out) Tryd.underlying23 rfl (by kernel_rfl)) rfl ?_
     exact ⟨by first | rfl | (simp [errW_none, errW_some] <;> rfl) | (simp [*, errW_none, errW_some] <;> rfl), blx⟩
    ·replace c35 := Bool.eq_false_iff.mpr c35
     subst c35
     have H1 : ((money_amount.f a0_1).bind fun bt462 => (if (IntKind.u64.wrap (a1)) = 0 then (none) else ((money_rounded.f kj5 (IntKind.u64.wrap (Int.tdiv bt462.1 (IntKind.u64.wrap (a1)))) (Int.tmod bt462.1 (IntKind.u64.wrap (a1))) (IntKind.u64.wrap (a1)) bt462.2 a2).bind fun bt464 => ((money_cents.f (wrap64 (bt464.1 * a1))).bind fun bt466 => (some (bt466.1, bt466.2)))))) = some (r1, r2) := by rw [if_neg (show ¬ (false = true) by decide)] at H; exact H
     clear H
     have H := H1
     clear H1
     replace H := Option.bind_eq_some_iff.mp H
     obtain ⟨⟨t462, t463⟩, A410, H⟩ := H
     replace H : (if (IntKind.u64.wrap (a1)) = 0 then (none) else ((money_rounded.f kj5 (IntKind.u64.wrap (Int.tdiv t462 (IntKind.u64.wrap (a1)))) (Int.tmod t462 (IntKind.u64.wrap (a1))) (IntKind.u64.wrap (a1)) t463 a2).bind fun bt464 => ((money_cents.f (wrap64 (bt464.1 * a1))).bind fun bt466 => (some (bt466.1, bt466.2))))) = some (r1, r2) := H
     have A41 := Aside0.mk A410
     clear A410
     by_cases c42 : (IntKind.u64.wrap (a1)) = 0
     ·rw [if_pos c42] at H
      exact absurd H (by simp)
     ·rw [if_neg c42] at H
      have c42b0 : ((IntKind.u64.wrap (a1)) == 0) = false := beq_eq_false_iff_ne.mpr c42
      have c42b1 : ((IntKind.u64.wrap (a1)) != 0) = true := bne_iff_ne.mpr c42
      replace H := Option.bind_eq_some_iff.mp H
      obtain ⟨⟨t464, t465⟩, A430, H⟩ := H
      replace H : ((money_cents.f (wrap64 (t464 * a1))).bind fun bt466 => (some (bt466.1, bt466.2))) = some (r1, r2) := H
      have A43 := Aside0.mk A430
      clear A430
      replace H := Option.bind_eq_some_iff.mp H
      obtain ⟨⟨t466, t467⟩, A440, H⟩ := H
      replace H : (some (t466, t467)) = some (r1, r2) := H
      have A44 := Aside0.mk A440
      clear A440
      simp only [Option.some.injEq, Prod.mk.injEq] at H
      obtain ⟨rfl, rfl⟩ := H
      have hnb45 := NB450_451.out
      have hnc45 := NB451_450.out
      have hnb46 := NB450_458.out
      have hnc46 := NB458_450.out
      obtain ⟨hcz47_0, hcz47_1, hfz47_0, hfz47_1⟩ := c2_ BK450
      go_wp2_with (first | (go_at_call 67; (with_reducible refine (money_amount.calls a0_1 t462 t463 _ A41.out).mono ?_); rintro e w' ⟨rfl, ⟨nd, rfl⟩⟩; (try first | exact ⟨rfl, _, World.drewN_drewN _ _ _⟩ | exact ⟨rfl, _, Eq.trans (World.drewN_drewN _ _ _) (congrArg (World.drewN _) (Nat.add_assoc _ _ _))⟩)) | (go_at_call 68; (with_reducible refine (money_rounded.calls kj5 (IntKind.u64.wrap (Int.tdiv t462 (IntKind.u64.wrap (a1)))) (Int.tmod t462 (IntKind.u64.wrap (a1))) (IntKind.u64.wrap (a1)) t463 a2 t464 t465 _ A43.out).mono ?_); rintro e w' ⟨rfl, ⟨nd, rfl⟩⟩; (try first | exact ⟨rfl, _, World.drewN_drewN _ _ _⟩ | exact ⟨rfl, _, Eq.trans (World.drewN_drewN _ _ _) (congrArg (World.drewN _) (Nat.add_assoc _ _ _))⟩)) | (go_at_call 69; (with_reducible refine (money_cents.calls (wrap64 (t464 * a1)) t466 t467 _ A44.out (by first | exact HG0.out | exact Kd.C_below HG0.out blx)).mono ?_); rintro e w48 ⟨rfl, hb⟩; replace BK450 := bkq BK450 hb; replace BK451 := bkq BK451 hb; replace BK458 := bkq BK458 hb; replace HB := Aside0.mk (below_step blx hb); (try clear hb); (try clear hb2); (try clear hk); (try clear hi); have hnb49 := NB451_458.out; have hnc49 := NB458_451.out; obtain ⟨hcz50_0, hcz50_1, hfz50_0, hfz50_1⟩ := c2_ BK451))
      repeat (go_quiet (first | (go_at_call 67; (with_reducible refine (money_amount.calls a0_1 t462 t463 _ A41.out).mono ?_); rintro e w' ⟨rfl, ⟨nd, rfl⟩⟩; (try first | exact ⟨rfl, _, World.drewN_drewN _ _ _⟩ | exact ⟨rfl, _, Eq.trans (World.drewN_drewN _ _ _) (congrArg (World.drewN _) (Nat.add_assoc _ _ _))⟩)) | (go_at_call 68; (with_reducible refine (money_rounded.calls kj5 (IntKind.u64.wrap (Int.tdiv t462 (IntKind.u64.wrap (a1)))) (Int.tmod t462 (IntKind.u64.wrap (a1))) (IntKind.u64.wrap (a1)) t463 a2 t464 t465 _ A43.out).mono ?_); rintro e w' ⟨rfl, ⟨nd, rfl⟩⟩; (try first | exact ⟨rfl, _, World.drewN_drewN _ _ _⟩ | exact ⟨rfl, _, Eq.trans (World.drewN_drewN _ _ _) (congrArg (World.drewN _) (Nat.add_assoc _ _ _))⟩)) | (go_at_call 69; (with_reducible refine (money_cents.calls (wrap64 (t464 * a1)) t466 t467 _ A44.out (by first | exact HG0.out | exact Kd.C_below HG0.out blx)).mono ?_); rintro e w48 ⟨rfl, hb⟩; replace BK450 := bkq BK450 hb; replace BK451 := bkq BK451 hb; replace BK458 := bkq BK458 hb; replace HB := Aside0.mk (below_step blx hb); (try clear hb); (try clear hb2); (try clear hk); (try clear hi); have hnb49 := NB451_458.out; have hnc49 := NB458_451.out; obtain ⟨hcz50_0, hcz50_1, hfz50_0, hfz50_1⟩ := c2_ BK451)); try go_wp2_with (first | (go_at_call 67; (with_reducible refine (money_amount.calls a0_1 t462 t463 _ A41.out).mono ?_); rintro e w' ⟨rfl, ⟨nd, rfl⟩⟩; (try first | exact ⟨rfl, _, World.drewN_drewN _ _ _⟩ | exact ⟨rfl, _, Eq.trans (World.drewN_drewN _ _ _) (congrArg (World.drewN _) (Nat.add_assoc _ _ _))⟩)) | (go_at_call 68; (with_reducible refine (money_rounded.calls kj5 (IntKind.u64.wrap (Int.tdiv t462 (IntKind.u64.wrap (a1)))) (Int.tmod t462 (IntKind.u64.wrap (a1))) (IntKind.u64.wrap (a1)) t463 a2 t464 t465 _ A43.out).mono ?_); rintro e w' ⟨rfl, ⟨nd, rfl⟩⟩; (try first | exact ⟨rfl, _, World.drewN_drewN _ _ _⟩ | exact ⟨rfl, _, Eq.trans (World.drewN_drewN _ _ _) (congrArg (World.drewN _) (Nat.add_assoc _ _ _))⟩)) | (go_at_call 69; (with_reducible refine (money_cents.calls (wrap64 (t464 * a1)) t466 t467 _ A44.out (by first | exact HG0.out | exact Kd.C_below HG0.out blx)).mono ?_); rintro e w48 ⟨rfl, hb⟩; replace BK450 := bkq BK450 hb; replace BK451 := bkq BK451 hb; replace BK458 := bkq BK458 hb; replace HB := Aside0.mk (below_step blx hb); (try clear hb); (try clear hb2); (try clear hk); (try clear hi); have hnb49 := NB451_458.out; have hnc49 := NB458_451.out; obtain ⟨hcz50_0, hcz50_1, hfz50_0, hfz50_1⟩ := c2_ BK451)))
      refine bodyPost_ret (results_cell_row rfl _ _ gb451 23 #[.int .i64 t466, .int .i64 t467] (0, 0) _ rfl (by (with_reducible repeat (first | refine blk_drewN ?_ _ | refine blk_drew ?_ | refine blk_alloc ?_ _)); refine blk_put (cs := #[.int .i64 t466, .int .i64 0]) ?_ 1 _ rfl; (with_reducible repeat (first | refine blk_drewN ?_ _ | refine blk_drew ?_ | refine blk_alloc ?_ _)); refine blk_put (cs := #[.int .i64 0, .int .i64 0]) ?_ 0 _ rfl; (with_reducible repeat (first | refine blk_drewN ?_ _ | refine blk_drew ?_ | refine blk_alloc ?_ _)); exact BK451.out) Tryd.underlying23 rfl (by kernel_rfl)) rfl ?_
      exact ⟨by first | rfl | (simp [errW_none, errW_some] <;> rfl) | (simp [*, errW_none, errW_some] <;> rfl), blx⟩
 ·replace c5 := Bool.eq_false_iff.mpr c5
  subst c5
  have H1 : (some (t455, t456)) = some (r1, r2) := by rw [if_neg (show ¬ (false = true) by decide)] at H; exact H
  clear H
  have H := H1
  clear H1
  simp only [Option.some.injEq, Prod.mk.injEq] at H
  obtain ⟨rfl, rfl⟩ := H
  go_enter Tryd.func39, Tryd.ntmps39
  go_wp2_with (first | ((with_reducible refine gate_dst (N := 3) rfl ?_); refine bxe (N := 3) (cs := #[.int .i64 a0_0, .int .i64 a0_1]) (t := 23) ?_; intro gb450 hg w51 hbox hb; have BK450 := Aside0.mk (hbox); have GW450 : Aside0 (w.heap.size ≤ gb450) := gwx hg; have GE450 : Aside0 (w.heap.size ≤ gb450) := gwx hg; replace HB := Aside0.mk (below_step blx hb); clear hb hbox hg) | ((with_reducible refine gate_dst (N := 6) rfl ?_); refine bxe (N := 6) (cs := #[.int .i64 0, .int .i64 0]) (t := 23) ?_; intro gb451 hg w52 hbox hb; have BK451 := Aside0.mk (hbox); have GW451 : Aside0 (w.heap.size ≤ gb451) := gwx hg; have GE451 : Aside0 (w.heap.size ≤ gb451) := gwx hg; replace HB := Aside0.mk (below_step blx hb); have NB450_451 := nbl BK450 hg; have NB451_450 := nbg BK450 hg; replace BK450 := bkq BK450 hb; clear hb hbox hg; have hnb53 := NB450_451.out; have hnc53 := NB451_450.out; obtain ⟨hcz54_0, hcz54_1, hfz54_0, hfz54_1⟩ := c2_ BK450) | ((with_reducible refine gate_dst (N := 16) rfl ?_); refine Kd.R_lit k23 _ 23 ?hg (N := 16) ?hd (xs := ([(⟨a0_0, a0_1⟩ : S23)] : List (S23))) (inner := [.int .i64 a0_0, .int .i64 a0_1]) (ok := fun _ => True) (okp := fun _ => True) ?hr ?hp (fun _ hk => hk) trivial (Below.refl _ _) (Nat.le_refl _) (by simp) ?_; (case hd => rfl); (case hg => rfl); (case hr => first | (go_simp; done) | (go_simp; rfl)); (case hp => exact (Reps.c2 (show Kd.M k23 _ _ _ (⟨a0_0, a0_1⟩ : S23) [.int .i64 a0_0, .int .i64 a0_1] from (k23_mkM _ _ _ (⟨a0_0, a0_1⟩ : S23) )) (Reps.none _ _))); intro v453 w55 ho56 hb hg_ hnew_; clear hg_ hnew_; (first | rw [← Ny452.out] at ho56 | (simp only [Int.reduceToNat] at ho56; rw [← Ny452.out] at ho56)); have HO454 := Aside0.mk (Kd.R_lower (Kd.R_newB (Kd.R_newB ho56 (g := gb450) (o := .cells #[.int .i64 a0_0, .int .i64 a0_1] 23 (0, 0)) bkx) (g := gb451) (o := .cells #[.int .i64 0, .int .i64 0] 23 (0, 0)) bkx) (below_size blx)); replace BK450 := bkq BK450 hb; replace BK451 := bkq BK451 hb; replace HB := Aside0.mk (below_step blx hb); clear hb ho56; obtain ⟨Ao57, co57, eo57⟩ := Kd.R_slice HO454.out; subst eo57) | (go_at_call 65; (with_reducible refine (money_seen.calls k _ _ y452 t455 t456 false _ ?side1 ?side2 A4.out (by first | exact HG0.out | exact Kd.C_below HG0.out blx)).mono ?_); (case side1 => exact crx HO454); (case side2 => exact (Kd.R_reads' HO454.out).2.1); rintro e w58 ⟨rfl, hb⟩; replace HO454 := hoq HO454 hb; replace BK450 := bkq BK450 hb; replace BK451 := bkq BK451 hb; replace HB := Aside0.mk (below_step blx hb); (try clear hb); (try clear hb2); (try clear hk); (try clear hi)) | ((with_reducible refine gate_dst (N := 7) rfl ?_); refine bxe (N := 7) (cs := #[.int .i64 0, .int .i64 0]) (t := 23) ?_; intro gb458 hg w59 hbox hb; replace HO454 := Aside0.mk (Kd.R_below (Kd.R_elderB (by (with_reducible repeat (first | apply Kd.R_alloc | apply Kd.R_drewN | apply Kd.R_drew)); exact HO454.out) gb458 (Nat.le_of_eq hg.symm)) hb); have BK458 := Aside0.mk (hbox); have GW458 : Aside0 (w.heap.size ≤ gb458) := gwx hg; have GE458 : Aside0 (w.heap.size ≤ gb458) := gwx hg; replace HB := Aside0.mk (below_step blx hb); have NB450_458 := nbl BK450 hg; have NB458_450 := nbg BK450 hg; replace BK450 := bkq BK450 hb; have NB451_458 := nbl BK451 hg; have NB458_451 := nbg BK451 hg; replace BK451 := bkq BK451 hb; clear hb hbox hg; have hnb60 := NB458_450.out; have hnc60 := NB450_458.out; have hnb61 := NB458_451.out; have hnc61 := NB451_458.out; obtain ⟨hcz62_0, hcz62_1, hfz62_0, hfz62_1⟩ := c2_ BK458; obtain ⟨hcz63_0, hcz63_1, hfz63_0, hfz63_1⟩ := c2_ BK451))
  repeat (go_quiet (first | ((with_reducible refine gate_dst (N := 3) rfl ?_); refine bxe (N := 3) (cs := #[.int .i64 a0_0, .int .i64 a0_1]) (t := 23) ?_; intro gb450 hg w51 hbox hb; have BK450 := Aside0.mk (hbox); have GW450 : Aside0 (w.heap.size ≤ gb450) := gwx hg; have GE450 : Aside0 (w.heap.size ≤ gb450) := gwx hg; replace HB := Aside0.mk (below_step blx hb); clear hb hbox hg) | ((with_reducible refine gate_dst (N := 6) rfl ?_); refine bxe (N := 6) (cs := #[.int .i64 0, .int .i64 0]) (t := 23) ?_; intro gb451 hg w52 hbox hb; have BK451 := Aside0.mk (hbox); have GW451 : Aside0 (w.heap.size ≤ gb451) := gwx hg; have GE451 : Aside0 (w.heap.size ≤ gb451) := gwx hg; replace HB := Aside0.mk (below_step blx hb); have NB450_451 := nbl BK450 hg; have NB451_450 := nbg BK450 hg; replace BK450 := bkq BK450 hb; clear hb hbox hg; have hnb53 := NB450_451.out; have hnc53 := NB451_450.out; obtain ⟨hcz54_0, hcz54_1, hfz54_0, hfz54_1⟩ := c2_ BK450) | ((with_reducible refine gate_dst (N := 16) rfl ?_); refine Kd.R_lit k23 _ 23 ?hg (N := 16) ?hd (xs := ([(⟨a0_0, a0_1⟩ : S23)] : List (S23))) (inner := [.int .i64 a0_0, .int .i64 a0_1]) (ok := fun _ => True) (okp := fun _ => True) ?hr ?hp (fun _ hk => hk) trivial (Below.refl _ _) (Nat.le_refl _) (by simp) ?_; (case hd => rfl); (case hg => rfl); (case hr => first | (go_simp; done) | (go_simp; rfl)); (case hp => exact (Reps.c2 (show Kd.M k23 _ _ _ (⟨a0_0, a0_1⟩ : S23) [.int .i64 a0_0, .int .i64 a0_1] from (k23_mkM _ _ _ (⟨a0_0, a0_1⟩ : S23) )) (Reps.none _ _))); intro v453 w55 ho56 hb hg_ hnew_; clear hg_ hnew_; (first | rw [← Ny452.out] at ho56 | (simp only [Int.reduceToNat] at ho56; rw [← Ny452.out] at ho56)); have HO454 := Aside0.mk (Kd.R_lower (Kd.R_newB (Kd.R_newB ho56 (g := gb450) (o := .cells #[.int .i64 a0_0, .int .i64 a0_1] 23 (0, 0)) bkx) (g := gb451) (o := .cells #[.int .i64 0, .int .i64 0] 23 (0, 0)) bkx) (below_size blx)); replace BK450 := bkq BK450 hb; replace BK451 := bkq BK451 hb; replace HB := Aside0.mk (below_step blx hb); clear hb ho56; obtain ⟨Ao57, co57, eo57⟩ := Kd.R_slice HO454.out; subst eo57) | (go_at_call 65; (with_reducible refine (money_seen.calls k _ _ y452 t455 t456 false _ ?side1 ?side2 A4.out (by first | exact HG0.out | exact Kd.C_below HG0.out blx)).mono ?_); (case side1 => exact crx HO454); (case side2 => exact (Kd.R_reads' HO454.out).2.1); rintro e w58 ⟨rfl, hb⟩; replace HO454 := hoq HO454 hb; replace BK450 := bkq BK450 hb; replace BK451 := bkq BK451 hb; replace HB := Aside0.mk (below_step blx hb); (try clear hb); (try clear hb2); (try clear hk); (try clear hi)) | ((with_reducible refine gate_dst (N := 7) rfl ?_); refine bxe (N := 7) (cs := #[.int .i64 0, .int .i64 0]) (t := 23) ?_; intro gb458 hg w59 hbox hb; replace HO454 := Aside0.mk (Kd.R_below (Kd.R_elderB (by (with_reducible repeat (first | apply Kd.R_alloc | apply Kd.R_drewN | apply Kd.R_drew)); exact HO454.out) gb458 (Nat.le_of_eq hg.symm)) hb); have BK458 := Aside0.mk (hbox); have GW458 : Aside0 (w.heap.size ≤ gb458) := gwx hg; have GE458 : Aside0 (w.heap.size ≤ gb458) := gwx hg; replace HB := Aside0.mk (below_step blx hb); have NB450_458 := nbl BK450 hg; have NB458_450 := nbg BK450 hg; replace BK450 := bkq BK450 hb; have NB451_458 := nbl BK451 hg; have NB458_451 := nbg BK451 hg; replace BK451 := bkq BK451 hb; clear hb hbox hg; have hnb60 := NB458_450.out; have hnc60 := NB450_458.out; have hnb61 := NB458_451.out; have hnc61 := NB451_458.out; obtain ⟨hcz62_0, hcz62_1, hfz62_0, hfz62_1⟩ := c2_ BK458; obtain ⟨hcz63_0, hcz63_1, hfz63_0, hfz63_1⟩ := c2_ BK451)); try go_wp2_with (first | ((with_reducible refine gate_dst (N := 3) rfl ?_); refine bxe (N := 3) (cs := #[.int .i64 a0_0, .int .i64 a0_1]) (t := 23) ?_; intro gb450 hg w51 hbox hb; have BK450 := Aside0.mk (hbox); have GW450 : Aside0 (w.heap.size ≤ gb450) := gwx hg; have GE450 : Aside0 (w.heap.size ≤ gb450) := gwx hg; replace HB := Aside0.mk (below_step blx hb); clear hb hbox hg) | ((with_reducible refine gate_dst (N := 6) rfl ?_); refine bxe (N := 6) (cs := #[.int .i64 0, .int .i64 0]) (t := 23) ?_; intro gb451 hg w52 hbox hb; have BK451 := Aside0.mk (hbox); have GW451 : Aside0 (w.heap.size ≤ gb451) := gwx hg; have GE451 : Aside0 (w.heap.size ≤ gb451) := gwx hg; replace HB := Aside0.mk (below_step blx hb); have NB450_451 := nbl BK450 hg; have NB451_450 := nbg BK450 hg; replace BK450 := bkq BK450 hb; clear hb hbox hg; have hnb53 := NB450_451.out; have hnc53 := NB451_450.out; obtain ⟨hcz54_0, hcz54_1, hfz54_0, hfz54_1⟩ := c2_ BK450) | ((with_reducible refine gate_dst (N := 16) rfl ?_); refine Kd.R_lit k23 _ 23 ?hg (N := 16) ?hd (xs := ([(⟨a0_0, a0_1⟩ : S23)] : List (S23))) (inner := [.int .i64 a0_0, .int .i64 a0_1]) (ok := fun _ => True) (okp := fun _ => True) ?hr ?hp (fun _ hk => hk) trivial (Below.refl _ _) (Nat.le_refl _) (by simp) ?_; (case hd => rfl); (case hg => rfl); (case hr => first | (go_simp; done) | (go_simp; rfl)); (case hp => exact (Reps.c2 (show Kd.M k23 _ _ _ (⟨a0_0, a0_1⟩ : S23) [.int .i64 a0_0, .int .i64 a0_1] from (k23_mkM _ _ _ (⟨a0_0, a0_1⟩ : S23) )) (Reps.none _ _))); intro v453 w55 ho56 hb hg_ hnew_; clear hg_ hnew_; (first | rw [← Ny452.out] at ho56 | (simp only [Int.reduceToNat] at ho56; rw [← Ny452.out] at ho56)); have HO454 := Aside0.mk (Kd.R_lower (Kd.R_newB (Kd.R_newB ho56 (g := gb450) (o := .cells #[.int .i64 a0_0, .int .i64 a0_1] 23 (0, 0)) bkx) (g := gb451) (o := .cells #[.int .i64 0, .int .i64 0] 23 (0, 0)) bkx) (below_size blx)); replace BK450 := bkq BK450 hb; replace BK451 := bkq BK451 hb; replace HB := Aside0.mk (below_step blx hb); clear hb ho56; obtain ⟨Ao57, co57, eo57⟩ := Kd.R_slice HO454.out; subst eo57) | (go_at_call 65; (with_reducible refine (money_seen.calls k _ _ y452 t455 t456 false _ ?side1 ?side2 A4.out (by first | exact HG0.out | exact Kd.C_below HG0.out blx)).mono ?_); (case side1 => exact crx HO454); (case side2 => exact (Kd.R_reads' HO454.out).2.1); rintro e w58 ⟨rfl, hb⟩; replace HO454 := hoq HO454 hb; replace BK450 := bkq BK450 hb; replace BK451 := bkq BK451 hb; replace HB := Aside0.mk (below_step blx hb); (try clear hb); (try clear hb2); (try clear hk); (try clear hi)) | ((with_reducible refine gate_dst (N := 7) rfl ?_); refine bxe (N := 7) (cs := #[.int .i64 0, .int .i64 0]) (t := 23) ?_; intro gb458 hg w59 hbox hb; replace HO454 := Aside0.mk (Kd.R_below (Kd.R_elderB (by (with_reducible repeat (first | apply Kd.R_alloc | apply Kd.R_drewN | apply Kd.R_drew)); exact HO454.out) gb458 (Nat.le_of_eq hg.symm)) hb); have BK458 := Aside0.mk (hbox); have GW458 : Aside0 (w.heap.size ≤ gb458) := gwx hg; have GE458 : Aside0 (w.heap.size ≤ gb458) := gwx hg; replace HB := Aside0.mk (below_step blx hb); have NB450_458 := nbl BK450 hg; have NB458_450 := nbg BK450 hg; replace BK450 := bkq BK450 hb; have NB451_458 := nbl BK451 hg; have NB458_451 := nbg BK451 hg; replace BK451 := bkq BK451 hb; clear hb hbox hg; have hnb60 := NB458_450.out; have hnc60 := NB450_458.out; have hnb61 := NB458_451.out; have hnc61 := NB451_458.out; obtain ⟨hcz62_0, hcz62_1, hfz62_0, hfz62_1⟩ := c2_ BK458; obtain ⟨hcz63_0, hcz63_1, hfz63_0, hfz63_1⟩ := c2_ BK451)))
  refine bodyPost_ret (results_cell_row rfl _ _ gb451 23 #[.int .i64 t455, .int .i64 t456] (0, 0) _ rfl (by (with_reducible repeat (first | refine blk_drewN ?_ _ | refine blk_drew ?_ | refine blk_alloc ?_ _)); refine blk_put (cs := #[.int .i64 t455, .int .i64 0]) ?_ 1 _ rfl; (with_reducible repeat (first | refine blk_drewN ?_ _ | refine blk_drew ?_ | refine blk_alloc ?_ _)); refine blk_put (cs := #[.int .i64 0, .int .i64 0]) ?_ 0 _ rfl; (with_reducible repeat (first | refine blk_drewN ?_ _ | refine blk_drew ?_ | refine blk_alloc ?_ _)); refine blk_far ?_ NB451_458.out _; (with_reducible repeat (first | refine blk_drewN ?_ _ | refine blk_drew ?_ | refine blk_alloc ?_ _)); refine blk_far ?_ NB451_458.out _; (with_reducible repeat (first | refine blk_drewN ?_ _ | refine blk_drew ?_ | refine blk_alloc ?_ _)); exact BK451.out) Tryd.underlying23 rfl (by kernel_rfl)) rfl ?_
  exact ⟨by first | rfl | (simp [errW_none, errW_some] <;> rfl) | (simp [*, errW_none, errW_some] <;> rfl), blx⟩
end Go.Proofs.YtnjhjaifmgjljaaDoor.PM
end

section
namespace Go.Proofs.YtnjhjaifmgjljaaDoor.PM
open Go.RowKit Go.Proofs.YtnjhjaifmgjljaaDoorW.PrintWords Go.Proofs.YtnjhjaifmgjljaaDoorW.PrintLast Go.Proofs.YtnjhjaifmgjljaaDoorW.PrintMore
attribute [local go_sem] max2_int min2_int max_two min_two max_three min_three max_four min_four
set_option linter.unusedVariables false
set_option linter.unusedSimpArgs false
def money_of.f (k : Nat) (a0_0 : Int) (a0_1 : Int) (a1 : Int) (a2_0 : Int) (a2_1 : Int) (a3 : Int) : Option (Int × Int × Bool) := (money_seen.f k (([(⟨a0_0, a0_1⟩ : S23), (⟨a2_0, a2_1⟩ : S23)] : List (S23)))).bind fun bt505 => (if bt505.2.2 = true then (if a0_0 = a1 then (if a2_0 = a3 then (some (0, 0, true)) else ((money_fault.f 5).bind fun bt509 => (some (bt509.1, bt509.2, false)))) else ((money_fault.f 5).bind fun bt511 => (some (bt511.1, bt511.2, false)))) else (some (bt505.1, bt505.2.1, false)))
theorem money_of.mono : ∀ a0 a1 a2 a3 a4 a5 k, LeO (money_of.f k a0 a1 a2 a3 a4 a5) (money_of.f (k + 1) a0 a1 a2 a3 a4 a5) := by
 intro a0 a1 a2 a3 a4 a5 k
 unfold money_of.f
 repeat' first
   | (with_reducible exact money_seen.mono _ _)
   | (with_reducible exact LeO.refl _)
   | (with_reducible exact LeO.none _)
   | (with_reducible refine LeO.ite ?_ ?_)
   | (with_reducible refine LeO.bind ?_ (fun _ => ?_))
   | exact money_seen.mono _ _
   | exact LeO.none _
   | refine LeO.ite ?_ ?_
   | refine LeO.bind ?_ (fun _ => ?_)
set_option maxHeartbeats 8000000 in
set_option maxRecDepth 100000 in
theorem money_of.calls (k : Nat) (a0_0 : Int) (a0_1 : Int) (a1 : Int) (a2_0 : Int) (a2_1 : Int) (a3 : Int) (r1 : Int) (r2 : Int) (r3 : Bool) (w : World) (h : money_of.f k a0_0 a0_1 a1 a2_0 a2_1 a3 = some (r1, r2, r3)) (hg0 : Kd.C k87 w (some ⟨0, 0, none⟩) gtab0.length gtab0) :
  Calls Tryd.prog 74 #[.agg #[.int .i64 a0_0, .int .i64 a0_1], .int .i64 a1, .agg #[.int .i64 a2_0, .int .i64 a2_1], .int .i64 a3] w fun e w' => e = .returned (.tuple #[.agg #[.int .i64 r1, .int .i64 r2], .bool r3]) ∧ Below w.heap.size w w' := by
 have HG0 := Aside0.mk hg0
 clear hg0
 have hu23 := Tryd.underlying23
 have HB := Aside0.mk (Below.refl w.heap.size w)
 have H : ((money_seen.f k (([(⟨a0_0, a0_1⟩ : S23), (⟨a2_0, a2_1⟩ : S23)] : List (S23)))).bind fun bt505 => (if bt505.2.2 = true then (if a0_0 = a1 then (if a2_0 = a3 then (some (0, 0, true)) else ((money_fault.f 5).bind fun bt509 => (some (bt509.1, bt509.2, false)))) else ((money_fault.f 5).bind fun bt511 => (some (bt511.1, bt511.2, false)))) else (some (bt505.1, bt505.2.1, false)))) = some (r1, r2, r3) := h
 clear h
 obtain ⟨y502, hy502⟩ : ∃ y_ : List (S23), y_ = (([(⟨a0_0, a0_1⟩ : S23), (⟨a2_0, a2_1⟩ : S23)] : List (S23))) := ⟨_, rfl⟩
 replace H : ((money_seen.f k y502).bind fun bt505 => (if bt505.2.2 = true then (if a0_0 = a1 then (if a2_0 = a3 then (some (0, 0, true)) else ((money_fault.f 5).bind fun bt509 => (some (bt509.1, bt509.2, false)))) else ((money_fault.f 5).bind fun bt511 => (some (bt511.1, bt511.2, false)))) else (some (bt505.1, bt505.2.1, false)))) = some (r1, r2, r3) := by first | (rw [hy502]; with_reducible exact H) | (have H2_ := (Option.bind_some _ _).symm.trans H; rw [hy502]; with_reducible exact H2_) | (have H2_ := (Option.bind_some _ _).symm.trans H; with_reducible exact H2_) | with_reducible exact H | (rw [hy502]; exact H) | exact H
 have Ny502 := Aside0.mk hy502
 clear hy502
 replace H := Option.bind_eq_some_iff.mp H
 obtain ⟨⟨t505, t506, t507⟩, A50, H⟩ := H
 replace H : (if t507 = true then (if a0_0 = a1 then (if a2_0 = a3 then (some (0, 0, true)) else ((money_fault.f 5).bind fun bt509 => (some (bt509.1, bt509.2, false)))) else ((money_fault.f 5).bind fun bt511 => (some (bt511.1, bt511.2, false)))) else (some (t505, t506, false))) = some (r1, r2, r3) := H
 have A5 := Aside0.mk A50
 clear A50
 by_cases c6 : t507 = true
 ·subst c6
  have H1 : (if a0_0 = a1 then (if a2_0 = a3 then (some (0, 0, true)) else ((money_fault.f 5).bind fun bt509 => (some (bt509.1, bt509.2, false)))) else ((money_fault.f 5).bind fun bt511 => (some (bt511.1, bt511.2, false)))) = some (r1, r2, r3) := by rw [if_pos rfl] at H; exact H
  clear H
  have H := H1
  clear H1
  by_cases c7 : a0_0 = a1
  ·rw [if_pos c7] at H
   have c7b0 : (a0_0 == a1) = true := beq_iff_eq.mpr c7
   have c7b1 : (a0_0 != a1) = false := bne_eq_false_iff_eq.mpr c7
   clear c7
   by_cases c8 : a2_0 = a3
   ·rw [if_pos c8] at H
    have c8b0 : (a2_0 == a3) = true := beq_iff_eq.mpr c8
    have c8b1 : (a2_0 != a3) = false := bne_eq_false_iff_eq.mpr c8
    clear c8
    simp only [Option.some.injEq, Prod.mk.injEq] at H
    obtain ⟨rfl, rfl, rfl⟩ := H
    go_enter Tryd.func74, Tryd.ntmps74
    go_wp2_with (first | ((with_reducible refine gate_dst (N := 4) rfl ?_); refine bxe (N := 4) (cs := #[.int .i64 a0_0, .int .i64 a0_1]) (t := 23) ?_; intro gb499 hg w9 hbox hb; have BK499 := Aside0.mk (hbox); have GW499 : Aside0 (w.heap.size ≤ gb499) := gwx hg; have GE499 : Aside0 (w.heap.size ≤ gb499) := gwx hg; replace HB := Aside0.mk (below_step blx hb); clear hb hbox hg) | ((with_reducible refine gate_dst (N := 6) rfl ?_); refine bxe (N := 6) (cs := #[.int .i64 a2_0, .int .i64 a2_1]) (t := 23) ?_; intro gb500 hg w10 hbox hb; have BK500 := Aside0.mk (hbox); have GW500 : Aside0 (w.heap.size ≤ gb500) := gwx hg; have GE500 : Aside0 (w.heap.size ≤ gb500) := gwx hg; replace HB := Aside0.mk (below_step blx hb); have NB499_500 := nbl BK499 hg; have NB500_499 := nbg BK499 hg; replace BK499 := bkq BK499 hb; clear hb hbox hg) | ((with_reducible refine gate_dst (N := 8) rfl ?_); refine bxe (N := 8) (cs := #[.int .i64 0, .int .i64 0]) (t := 23) ?_; intro gb501 hg w11 hbox hb; have BK501 := Aside0.mk (hbox); have GW501 : Aside0 (w.heap.size ≤ gb501) := gwx hg; have GE501 : Aside0 (w.heap.size ≤ gb501) := gwx hg; replace HB := Aside0.mk (below_step blx hb); have NB499_501 := nbl BK499 hg; have NB501_499 := nbg BK499 hg; replace BK499 := bkq BK499 hb; have NB500_501 := nbl BK500 hg; have NB501_500 := nbg BK500 hg; replace BK500 := bkq BK500 hb; clear hb hbox hg; have hnb12 := NB499_500.out; have hnc12 := NB500_499.out; have hnb13 := NB499_501.out; have hnc13 := NB501_499.out; obtain ⟨hcz14_0, hcz14_1, hfz14_0, hfz14_1⟩ := c2_ BK499; have hnb15 := NB500_501.out; have hnc15 := NB501_500.out; obtain ⟨hcz16_0, hcz16_1, hfz16_0, hfz16_1⟩ := c2_ BK500) | ((with_reducible refine gate_dst (N := 15) rfl ?_); refine Kd.R_lit k23 _ 23 ?hg (N := 15) ?hd (xs := ([(⟨a0_0, a0_1⟩ : S23), (⟨a2_0, a2_1⟩ : S23)] : List (S23))) (inner := [.int .i64 a0_0, .int .i64 a0_1, .int .i64 a2_0, .int .i64 a2_1]) (ok := fun _ => True) (okp := fun _ => True) ?hr ?hp (fun _ hk => hk) trivial (Below.refl _ _) (Nat.le_refl _) (by simp) ?_; (case hd => rfl); (case hg => rfl); (case hr => first | (go_simp; done) | (go_simp; rfl)); (case hp => exact (Reps.c2 (show Kd.M k23 _ _ _ (⟨a0_0, a0_1⟩ : S23) [.int .i64 a0_0, .int .i64 a0_1] from (k23_mkM _ _ _ (⟨a0_0, a0_1⟩ : S23) )) (Reps.c2 (show Kd.M k23 _ _ _ (⟨a2_0, a2_1⟩ : S23) [.int .i64 a2_0, .int .i64 a2_1] from (k23_mkM _ _ _ (⟨a2_0, a2_1⟩ : S23) )) (Reps.none _ _)))); intro v503 w17 ho18 hb hg_ hnew_; clear hg_ hnew_; (first | rw [← Ny502.out] at ho18 | (simp only [Int.reduceToNat] at ho18; rw [← Ny502.out] at ho18)); have HO504 := Aside0.mk (Kd.R_lower (Kd.R_newB (Kd.R_newB (Kd.R_newB ho18 (g := gb499) (o := .cells #[.int .i64 a0_0, .int .i64 a0_1] 23 (0, 0)) bkx) (g := gb500) (o := .cells #[.int .i64 a2_0, .int .i64 a2_1] 23 (0, 0)) bkx) (g := gb501) (o := .cells #[.int .i64 0, .int .i64 0] 23 (0, 0)) bkx) (below_size blx)); replace BK499 := bkq BK499 hb; replace BK500 := bkq BK500 hb; replace BK501 := bkq BK501 hb; replace HB := Aside0.mk (below_step blx hb); clear hb ho18; obtain ⟨Ao19, co19, eo19⟩ := Kd.R_slice HO504.out; subst eo19) | ((with_reducible refine gate_callee (f := 65) rfl ?_); refine goesL_ (some 16) rfl rfl Tryd.func65 (by kernel_rfl) rfl #[.slice Ao19 y502.length co19] rfl agx ?_; (with_reducible refine (money_seen.calls k _ _ y502 t505 t506 true _ ?side1 ?side2 A5.out (by first | exact HG0.out | exact Kd.C_below HG0.out blx)).mono ?_); (case side1 => exact crx HO504); (case side2 => exact (Kd.R_reads' HO504.out).2.1); rintro e w20 ⟨rfl, hb⟩; refine ⟨_, rfl, ?_⟩; replace HO504 := hoq HO504 hb; replace BK499 := bkq BK499 hb; replace BK500 := bkq BK500 hb; replace BK501 := bkq BK501 hb; replace HB := Aside0.mk (below_step blx hb); (try clear hb); (try clear hb2); (try clear hk); (try clear hi)) | ((with_reducible refine gate_dst (N := 10) rfl ?_); refine bxe (N := 10) (cs := #[.int .i64 0, .int .i64 0]) (t := 23) ?_; intro gb508 hg w21 hbox hb; replace HO504 := Aside0.mk (Kd.R_below (Kd.R_elderB (by (with_reducible repeat (first | apply Kd.R_alloc | apply Kd.R_drewN | apply Kd.R_drew)); exact HO504.out) gb508 (Nat.le_of_eq hg.symm)) hb); have BK508 := Aside0.mk (hbox); have GW508 : Aside0 (w.heap.size ≤ gb508) := gwx hg; have GE508 : Aside0 (w.heap.size ≤ gb508) := gwx hg; replace HB := Aside0.mk (below_step blx hb); have NB499_508 := nbl BK499 hg; have NB508_499 := nbg BK499 hg; replace BK499 := bkq BK499 hb; have NB500_508 := nbl BK500 hg; have NB508_500 := nbg BK500 hg; replace BK500 := bkq BK500 hb; have NB501_508 := nbl BK501 hg; have NB508_501 := nbg BK501 hg; replace BK501 := bkq BK501 hb; clear hb hbox hg; have hnb22 := NB508_499.out; have hnc22 := NB499_508.out; have hnb23 := NB508_500.out; have hnc23 := NB500_508.out; have hnb24 := NB508_501.out; have hnc24 := NB501_508.out; obtain ⟨hcz25_0, hcz25_1, hfz25_0, hfz25_1⟩ := c2_ BK508; obtain ⟨hcz26_0, hcz26_1, hfz26_0, hfz26_1⟩ := c2_ BK499; obtain ⟨hcz27_0, hcz27_1, hfz27_0, hfz27_1⟩ := c2_ BK500; obtain ⟨hcz28_0, hcz28_1, hfz28_0, hfz28_1⟩ := c2_ BK501))
    refine bodyPost_ret (results_ct rfl _ _ gb501 23 #[.int .i64 0, .int .i64 0] (0, 0) _ rfl (by (with_reducible repeat (first | refine blk_drewN ?_ _ | refine blk_drew ?_ | refine blk_alloc ?_ _)); refine blk_put (cs := #[.int .i64 0, .int .i64 0]) ?_ 1 _ rfl; (with_reducible repeat (first | refine blk_drewN ?_ _ | refine blk_drew ?_ | refine blk_alloc ?_ _)); refine blk_put (cs := #[.int .i64 0, .int .i64 0]) ?_ 0 _ rfl; (with_reducible repeat (first | refine blk_drewN ?_ _ | refine blk_drew ?_ | refine blk_alloc ?_ _)); refine blk_far ?_ NB501_508.out _; (with_reducible repeat (first | refine blk_drewN ?_ _ | refine blk_drew ?_ | refine blk_alloc ?_ _)); refine blk_far ?_ NB501_508.out _; (with_reducible repeat (first | refine blk_drewN ?_ _ | refine blk_drew ?_ | refine blk_alloc ?_ _)); exact BK501.out) Tryd.underlying23 rfl (by kernel_rfl)) rfl ?_
    exact ⟨by first | rfl | (simp [errW_none, errW_some] <;> rfl) | (simp [*, errW_none, errW_some] <;> rfl), blx⟩
   ·rw [if_neg c8] at H
    have c8b0 : (a2_0 == a3) = false := beq_eq_false_iff_ne.mpr c8
    have c8b1 : (a2_0 != a3) = true := bne_iff_ne.mpr c8
    replace H := Option.bind_eq_some_iff.mp H
    obtain ⟨⟨t509, t510⟩, A290, H⟩ := H
    replace H : (some (t509, t510, false)) = some (r1, r2, r3) := H
    have A29 := Aside0.mk A290
    clear A290
    simp only [Option.some.injEq, Prod.mk.injEq] at H
    obtain ⟨rfl, rfl, rfl⟩ := H
    go_enter Tryd.func74, Tryd.ntmps74
    go_wp2_with (first | ((with_reducible refine gate_dst (N := 4) rfl ?_); refine bxe (N := 4) (cs := #[.int .i64 a0_0, .int .i64 a0_1]) (t := 23) ?_; intro gb499 hg w30 hbox hb; have BK499 := Aside0.mk (hbox); have GW499 : Aside0 (w.heap.size ≤ gb499) := gwx hg; have GE499 : Aside0 (w.heap.size ≤ gb499) := gwx hg; replace HB := Aside0.mk (below_step blx hb); clear hb hbox hg) | ((with_reducible refine gate_dst (N := 6) rfl ?_); refine bxe (N := 6) (cs := #[.int .i64 a2_0, .int .i64 a2_1]) (t := 23) ?_; intro gb500 hg w31 hbox hb; have BK500 := Aside0.mk (hbox); have GW500 : Aside0 (w.heap.size ≤ gb500) := gwx hg; have GE500 : Aside0 (w.heap.size ≤ gb500) := gwx hg; replace HB := Aside0.mk (below_step blx hb); have NB499_500 := nbl BK499 hg; have NB500_499 := nbg BK499 hg; replace BK499 := bkq BK499 hb; clear hb hbox hg) | ((with_reducible refine gate_dst (N := 8) rfl ?_); refine bxe (N := 8) (cs := #[.int .i64 0, .int .i64 0]) (t := 23) ?_; intro gb501 hg w32 hbox hb; have BK501 := Aside0.mk (hbox); have GW501 : Aside0 (w.heap.size ≤ gb501) := gwx hg; have GE501 : Aside0 (w.heap.size ≤ gb501) := gwx hg; replace HB := Aside0.mk (below_step blx hb); have NB499_501 := nbl BK499 hg; have NB501_499 := nbg BK499 hg; replace BK499 := bkq BK499 hb; have NB500_501 := nbl BK500 hg; have NB501_500 := nbg BK500 hg; replace BK500 := bkq BK500 hb; clear hb hbox hg; have hnb33 := NB499_500.out; have hnc33 := NB500_499.out; have hnb34 := NB499_501.out; have hnc34 := NB501_499.out; obtain ⟨hcz35_0, hcz35_1, hfz35_0, hfz35_1⟩ := c2_ BK499; have hnb36 := NB500_501.out; have hnc36 := NB501_500.out; obtain ⟨hcz37_0, hcz37_1, hfz37_0, hfz37_1⟩ := c2_ BK500) | ((with_reducible refine gate_dst (N := 15) rfl ?_); refine Kd.R_lit k23 _ 23 ?hg (N := 15) ?hd (xs := ([(⟨a0_0, a0_1⟩ : S23), (⟨a2_0, a2_1⟩ : S23)] : List (S23))) (inner := [.int .i64 a0_0, .int .i64 a0_1, .int .i64 a2_0, .int .i64 a2_1]) (ok := fun _ => True) (okp := fun _ => True) ?hr ?hp (fun _ hk => hk) trivial (Below.refl _ _) (Nat.le_refl _) (by simp) ?_; (case hd => rfl); (case hg => rfl); (case hr => first | (go_simp; done) | (go_simp; rfl)); (case hp => exact (Reps.c2 (show Kd.M k23 _ _ _ (⟨a0_0, a0_1⟩ : S23) [.int .i64 a0_0, .int .i64 a0_1] from (k23_mkM _ _ _ (⟨a0_0, a0_1⟩ : S23) )) (Reps.c2 (show Kd.M k23 _ _ _ (⟨a2_0, a2_1⟩ : S23) [.int .i64 a2_0, .int .i64 a2_1] from (k23_mkM _ _ _ (⟨a2_0, a2_1⟩ : S23) )) (Reps.none _ _)))); intro v503 w38 ho39 hb hg_ hnew_; clear hg_ hnew_; (first | rw [← Ny502.out] at ho39 | (simp only [Int.reduceToNat] at ho39; rw [← Ny502.out] at ho39)); have HO504 := Aside0.mk (Kd.R_lower (Kd.R_newB (Kd.R_newB (Kd.R_newB ho39 (g := gb499) (o := .cells #[.int .i64 a0_0, .int .i64 a0_1] 23 (0, 0)) bkx) (g := gb500) (o := .cells #[.int .i64 a2_0, .int .i64 a2_1] 23 (0, 0)) bkx) (g := gb501) (o := .cells #[.int .i64 0, .int .i64 0] 23 (0, 0)) bkx) (below_size blx)); replace BK499 := bkq BK499 hb; replace BK500 := bkq BK500 hb; replace BK501 := bkq BK501 hb; replace HB := Aside0.mk (below_step blx hb); clear hb ho39; obtain ⟨Ao40, co40, eo40⟩ := Kd.R_slice HO504.out; subst eo40) | ((with_reducible refine gate_callee (f := 65) rfl ?_); refine goesL_ (some 16) rfl rfl Tryd.func65 (by kernel_rfl) rfl #[.slice Ao40 y502.length co40] rfl agx ?_; (with_reducible refine (money_seen.calls k _ _ y502 t505 t506 true _ ?side1 ?side2 A5.out (by first | exact HG0.out | exact Kd.C_below HG0.out blx)).mono ?_); (case side1 => exact crx HO504); (case side2 => exact (Kd.R_reads' HO504.out).2.1); rintro e w41 ⟨rfl, hb⟩; refine ⟨_, rfl, ?_⟩; replace HO504 := hoq HO504 hb; replace BK499 := bkq BK499 hb; replace BK500 := bkq BK500 hb; replace BK501 := bkq BK501 hb; replace HB := Aside0.mk (below_step blx hb); (try clear hb); (try clear hb2); (try clear hk); (try clear hi)) | ((with_reducible refine gate_dst (N := 10) rfl ?_); refine bxe (N := 10) (cs := #[.int .i64 0, .int .i64 0]) (t := 23) ?_; intro gb508 hg w42 hbox hb; replace HO504 := Aside0.mk (Kd.R_below (Kd.R_elderB (by (with_reducible repeat (first | apply Kd.R_alloc | apply Kd.R_drewN | apply Kd.R_drew)); exact HO504.out) gb508 (Nat.le_of_eq hg.symm)) hb); have BK508 := Aside0.mk (hbox); have GW508 : Aside0 (w.heap.size ≤ gb508) := gwx hg; have GE508 : Aside0 (w.heap.size ≤ gb508) := gwx hg; replace HB := Aside0.mk (below_step blx hb); have NB499_508 := nbl BK499 hg; have NB508_499 := nbg BK499 hg; replace BK499 := bkq BK499 hb; have NB500_508 := nbl BK500 hg; have NB508_500 := nbg BK500 hg; replace BK500 := bkq BK500 hb; have NB501_508 := nbl BK501 hg; have NB508_501 := nbg BK501 hg; replace BK501 := bkq BK501 hb; clear hb hbox hg; have hnb43 := NB508_499.out; have hnc43 := NB499_508.out; have hnb44 := NB508_500.out; have hnc44 := NB500_508.out; have hnb45 := NB508_501.out; have hnc45 := NB501_508.out; obtain ⟨hcz46_0, hcz46_1, hfz46_0, hfz46_1⟩ := c2_ BK508; obtain ⟨hcz47_0, hcz47_1, hfz47_0, hfz47_1⟩ := c2_ BK499; obtain ⟨hcz48_0, hcz48_1, hfz48_0, hfz48_1⟩ := c2_ BK500) | ((with_reducible refine gate_callee (f := 59) rfl ?_); refine goesL_ (some 32) rfl rfl Tryd.func59 (by kernel_rfl) rfl #[.int .i64 5] rfl agx ?_; (with_reducible refine (money_fault.calls 5 t509 t510 _ A29.out).mono ?_); rintro e w49 ⟨rfl, hb⟩; refine ⟨_, rfl, ?_⟩; replace HO504 := Aside0.mk (Kd.R_below (by (with_reducible repeat (first | apply Kd.R_alloc | apply Kd.R_drewN | apply Kd.R_drew)); exact (Kd.R_mono (Kd.R_far (p := ⟨gb508, 1, none⟩) (Kd.R_far (p := ⟨gb508, 0, none⟩) (Kd.R_mono HO504.out (fun k_ hk => (⟨hk, hk.2⟩ : _ ∧ k_ ≠ gb508))) (fun _ hk => hk.2) (.int .i64 t505)) (fun _ hk => hk.2) (.int .i64 t506)) (fun _ h_ => h_.1))) hb); replace BK499 := bkq BK499 hb; replace BK500 := bkq BK500 hb; replace BK501 := bkq BK501 hb; replace BK508 := Aside0.mk (blk_below (g := gb508) (o := .cells #[.int .i64 t505, .int .i64 t506] 23 (0, 0)) (by (with_reducible repeat (first | refine blk_drewN ?_ _ | refine blk_drew ?_ | refine blk_alloc ?_ _)); refine blk_put (cs := #[.int .i64 t505, .int .i64 0]) ?_ 1 _ rfl; (with_reducible repeat (first | refine blk_drewN ?_ _ | refine blk_drew ?_ | refine blk_alloc ?_ _)); refine blk_put (cs := #[.int .i64 0, .int .i64 0]) ?_ 0 _ rfl; (with_reducible repeat (first | refine blk_drewN ?_ _ | refine blk_drew ?_ | refine blk_alloc ?_ _)); exact BK508.out) hb); replace HB := Aside0.mk (below_step blx hb); (try clear hb); (try clear hb2); (try clear hk); (try clear hi); obtain ⟨hcz50_0, hcz50_1, hfz50_0, hfz50_1⟩ := c2_ BK501))
    refine bodyPost_ret (results_ct rfl _ _ gb501 23 #[.int .i64 t509, .int .i64 t510] (0, 0) _ rfl (by (with_reducible repeat (first | refine blk_drewN ?_ _ | refine blk_drew ?_ | refine blk_alloc ?_ _)); refine blk_put (cs := #[.int .i64 t509, .int .i64 0]) ?_ 1 _ rfl; (with_reducible repeat (first | refine blk_drewN ?_ _ | refine blk_drew ?_ | refine blk_alloc ?_ _)); refine blk_put (cs := #[.int .i64 0, .int .i64 0]) ?_ 0 _ rfl; (with_reducible repeat (first | refine blk_drewN ?_ _ | refine blk_drew ?_ | refine blk_alloc ?_ _)); exact BK501.out) Tryd.underlying23 rfl (by kernel_rfl)) rfl ?_
    exact ⟨by first | rfl | (simp [errW_none, errW_some] <;> rfl) | (simp [*, errW_none, errW_some] <;> rfl), blx⟩
  ·rw [if_neg c7] at H
   have c7b0 : (a0_0 == a1) = false := beq_eq_false_iff_ne.mpr c7
   have c7b1 : (a0_0 != a1) = true := bne_iff_ne.mpr c7
   replace H := Option.bind_eq_some_iff.mp H
   obtain ⟨⟨t511, t512⟩, A510, H⟩ := H
   replace H : (some (t511, t512, false)) = some (r1, r2, r3) := H
   have A51 := Aside0.mk A510
   clear A510
   simp only [Option.some.injEq, Prod.mk.injEq] at H
   obtain ⟨rfl, rfl, rfl⟩ := H
   go_enter Tryd.func74, Tryd.ntmps74
   go_wp2_with (first | ((with_reducible refine gate_dst (N := 4) rfl ?_); refine bxe (N := 4) (cs := #[.int .i64 a0_0, .int .i64 a0_1]) (t := 23) ?_; intro gb499 hg w52 hbox hb; have BK499 := Aside0.mk (hbox); have GW499 : Aside0 (w.heap.size ≤ gb499) := gwx hg; have GE499 : Aside0 (w.heap.size ≤ gb499) := gwx hg; replace HB := Aside0.mk (below_step blx hb); clear hb hbox hg) | ((with_reducible refine gate_dst (N := 6) rfl ?_); refine bxe (N := 6) (cs := #[.int .i64 a2_0, .int .i64 a2_1]) (t := 23) ?_; intro gb500 hg w53 hbox hb; have BK500 := Aside0.mk (hbox); have GW500 : Aside0 (w.heap.size ≤ gb500) := gwx hg; have GE500 : Aside0 (w.heap.size ≤ gb500) := gwx hg; replace HB := Aside0.mk (below_step blx hb); have NB499_500 := nbl BK499 hg; have NB500_499 := nbg BK499 hg; replace BK499 := bkq BK499 hb; clear hb hbox hg) | ((with_reducible refine gate_dst (N := 8) rfl ?_); refine bxe (N := 8) (cs := #[.int .i64 0, .int .i64 0]) (t := 23) ?_; intro gb501 hg w54 hbox hb; have BK501 := Aside0.mk (hbox); have GW501 : Aside0 (w.heap.size ≤ gb501) := gwx hg; have GE501 : Aside0 (w.heap.size ≤ gb501) := gwx hg; replace HB := Aside0.mk (below_step blx hb); have NB499_501 := nbl BK499 hg; have NB501_499 := nbg BK499 hg; replace BK499 := bkq BK499 hb; have NB500_501 := nbl BK500 hg; have NB501_500 := nbg BK500 hg; replace BK500 := bkq BK500 hb; clear hb hbox hg; have hnb55 := NB499_500.out; have hnc55 := NB500_499.out; have hnb56 := NB499_501.out; have hnc56 := NB501_499.out; obtain ⟨hcz57_0, hcz57_1, hfz57_0, hfz57_1⟩ := c2_ BK499; have hnb58 := NB500_501.out; have hnc58 := NB501_500.out; obtain ⟨hcz59_0, hcz59_1, hfz59_0, hfz59_1⟩ := c2_ BK500) | ((with_reducible refine gate_dst (N := 15) rfl ?_); refine Kd.R_lit k23 _ 23 ?hg (N := 15) ?hd (xs := ([(⟨a0_0, a0_1⟩ : S23), (⟨a2_0, a2_1⟩ : S23)] : List (S23))) (inner := [.int .i64 a0_0, .int .i64 a0_1, .int .i64 a2_0, .int .i64 a2_1]) (ok := fun _ => True) (okp := fun _ => True) ?hr ?hp (fun _ hk => hk) trivial (Below.refl _ _) (Nat.le_refl _) (by simp) ?_; (case hd => rfl); (case hg => rfl); (case hr => first | (go_simp; done) | (go_simp; rfl)); (case hp => exact (Reps.c2 (show Kd.M k23 _ _ _ (⟨a0_0, a0_1⟩ : S23) [.int .i64 a0_0, .int .i64 a0_1] from (k23_mkM _ _ _ (⟨a0_0, a0_1⟩ : S23) )) (Reps.c2 (show Kd.M k23 _ _ _ (⟨a2_0, a2_1⟩ : S23) [.int .i64 a2_0, .int .i64 a2_1] from (k23_mkM _ _ _ (⟨a2_0, a2_1⟩ : S23) )) (Reps.none _ _)))); intro v503 w60 ho61 hb hg_ hnew_; clear hg_ hnew_; (first | rw [← Ny502.out] at ho61 | (simp only [Int.reduceToNat] at ho61; rw [← Ny502.out] at ho61)); have HO504 := Aside0.mk (Kd.R_lower (Kd.R_newB (Kd.R_newB (Kd.R_newB ho61 (g := gb499) (o := .cells #[.int .i64 a0_0, .int .i64 a0_1] 23 (0, 0)) bkx) (g := gb500) (o := .cells #[.int .i64 a2_0, .int .i64 a2_1] 23 (0, 0)) bkx) (g := gb501) (o := .cells #[.int .i64 0, .int .i64 0] 23 (0, 0)) bkx) (below_size blx)); replace BK499 := bkq BK499 hb; replace BK500 := bkq BK500 hb; replace BK501 := bkq BK501 hb; replace HB := Aside0.mk (below_step blx hb); clear hb ho61; obtain ⟨Ao62, co62, eo62⟩ := Kd.R_slice HO504.out; subst eo62) | ((with_reducible refine gate_callee (f := 65) rfl ?_); refine goesL_ (some 16) rfl rfl Tryd.func65 (by kernel_rfl) rfl #[.slice Ao62 y502.length co62] rfl agx ?_; (with_reducible refine (money_seen.calls k _ _ y502 t505 t506 true _ ?side1 ?side2 A5.out (by first | exact HG0.out | exact Kd.C_below HG0.out blx)).mono ?_); (case side1 => exact crx HO504); (case side2 => exact (Kd.R_reads' HO504.out).2.1); rintro e w63 ⟨rfl, hb⟩; refine ⟨_, rfl, ?_⟩; replace HO504 := hoq HO504 hb; replace BK499 := bkq BK499 hb; replace BK500 := bkq BK500 hb; replace BK501 := bkq BK501 hb; replace HB := Aside0.mk (below_step blx hb); (try clear hb); (try clear hb2); (try clear hk); (try clear hi)) | ((with_reducible refine gate_dst (N := 10) rfl ?_); refine bxe (N := 10) (cs := #[.int .i64 0, .int .i64 0]) (t := 23) ?_; intro gb508 hg w64 hbox hb; replace HO504 := Aside0.mk (Kd.R_below (Kd.R_elderB (by (with_reducible repeat (first | apply Kd.R_alloc | apply Kd.R_drewN | apply Kd.R_drew)); exact HO504.out) gb508 (Nat.le_of_eq hg.symm)) hb); have BK508 := Aside0.mk (hbox); have GW508 : Aside0 (w.heap.size ≤ gb508) := gwx hg; have GE508 : Aside0 (w.heap.size ≤ gb508) := gwx hg; replace HB := Aside0.mk (below_step blx hb); have NB499_508 := nbl BK499 hg; have NB508_499 := nbg BK499 hg; replace BK499 := bkq BK499 hb; have NB500_508 := nbl BK500 hg; have NB508_500 := nbg BK500 hg; replace BK500 := bkq BK500 hb; have NB501_508 := nbl BK501 hg; have NB508_501 := nbg BK501 hg; replace BK501 := bkq BK501 hb; clear hb hbox hg; have hnb65 := NB508_499.out; have hnc65 := NB499_508.out; have hnb66 := NB508_500.out; have hnc66 := NB500_508.out; have hnb67 := NB508_501.out; have hnc67 := NB501_508.out; obtain ⟨hcz68_0, hcz68_1, hfz68_0, hfz68_1⟩ := c2_ BK508; obtain ⟨hcz69_0, hcz69_1, hfz69_0, hfz69_1⟩ := c2_ BK499) | ((with_reducible refine gate_callee (f := 59) rfl ?_); refine goesL_ (some 32) rfl rfl Tryd.func59 (by kernel_rfl) rfl #[.int .i64 5] rfl agx ?_; (with_reducible refine (money_fault.calls 5 t511 t512 _ A51.out).mono ?_); rintro e w70 ⟨rfl, hb⟩; refine ⟨_, rfl, ?_⟩; replace HO504 := Aside0.mk (Kd.R_below (by (with_reducible repeat (first | apply Kd.R_alloc | apply Kd.R_drewN | apply Kd.R_drew)); exact (Kd.R_mono (Kd.R_far (p := ⟨gb508, 1, none⟩) (Kd.R_far (p := ⟨gb508, 0, none⟩) (Kd.R_mono HO504.out (fun k_ hk => (⟨hk, hk.2⟩ : _ ∧ k_ ≠ gb508))) (fun _ hk => hk.2) (.int .i64 t505)) (fun _ hk => hk.2) (.int .i64 t506)) (fun _ h_ => h_.1))) hb); replace BK499 := bkq BK499 hb; replace BK500 := bkq BK500 hb; replace BK501 := bkq BK501 hb; replace BK508 := Aside0.mk (blk_below (g := gb508) (o := .cells #[.int .i64 t505, .int .i64 t506] 23 (0, 0)) (by (with_reducible repeat (first | refine blk_drewN ?_ _ | refine blk_drew ?_ | refine blk_alloc ?_ _)); refine blk_put (cs := #[.int .i64 t505, .int .i64 0]) ?_ 1 _ rfl; (with_reducible repeat (first | refine blk_drewN ?_ _ | refine blk_drew ?_ | refine blk_alloc ?_ _)); refine blk_put (cs := #[.int .i64 0, .int .i64 0]) ?_ 0 _ rfl; (with_reducible repeat (first | refine blk_drewN ?_ _ | refine blk_drew ?_ | refine blk_alloc ?_ _)); exact BK508.out) hb); replace HB := Aside0.mk (below_step blx hb); (try clear hb); (try clear hb2); (try clear hk); (try clear hi); obtain ⟨hcz71_0, hcz71_1, hfz71_0, hfz71_1⟩ := c2_ BK501))
   refine bodyPost_ret (results_ct rfl _ _ gb501 23 #[.int .i64 t511, .int .i64 t512] (0, 0) _ rfl (by (with_reducible repeat (first | refine blk_drewN ?_ _ | refine blk_drew ?_ | refine blk_alloc ?_ _)); refine blk_put (cs := #[.int .i64 t511, .int .i64 0]) ?_ 1 _ rfl; (with_reducible repeat (first | refine blk_drewN ?_ _ | refine blk_drew ?_ | refine blk_alloc ?_ _)); refine blk_put (cs := #[.int .i64 0, .int .i64 0]) ?_ 0 _ rfl; (with_reducible repeat (first | refine blk_drewN ?_ _ | refine blk_drew ?_ | refine blk_alloc ?_ _)); exact BK501.out) Tryd.underlying23 rfl (by kernel_rfl)) rfl ?_
   exact ⟨by first | rfl | (simp [errW_none, errW_some] <;> rfl) | (simp [*, errW_none, errW_some] <;> rfl), blx⟩
 ·replace c6 := Bool.eq_false_iff.mpr c6
  subst c6
  have H1 : (some (t505, t506, false)) = some (r1, r2, r3) := by rw [if_neg (show ¬ (false = true) by decide)] at H; exact H
  clear H
  have H := H1
  clear H1
  simp only [Option.some.injEq, Prod.mk.injEq] at H
  obtain ⟨rfl, rfl, rfl⟩ := H
  go_enter Tryd.func74, Tryd.ntmps74
  go_wp2_with (first | ((with_reducible refine gate_dst (N := 4) rfl ?_); refine bxe (N := 4) (cs := #[.int .i64 a0_0, .int .i64 a0_1]) (t := 23) ?_; intro gb499 hg w72 hbox hb; have BK499 := Aside0.mk (hbox); have GW499 : Aside0 (w.heap.size ≤ gb499) := gwx hg; have GE499 : Aside0 (w.heap.size ≤ gb499) := gwx hg; replace HB := Aside0.mk (below_step blx hb); clear hb hbox hg) | ((with_reducible refine gate_dst (N := 6) rfl ?_); refine bxe (N := 6) (cs := #[.int .i64 a2_0, .int .i64 a2_1]) (t := 23) ?_; intro gb500 hg w73 hbox hb; have BK500 := Aside0.mk (hbox); have GW500 : Aside0 (w.heap.size ≤ gb500) := gwx hg; have GE500 : Aside0 (w.heap.size ≤ gb500) := gwx hg; replace HB := Aside0.mk (below_step blx hb); have NB499_500 := nbl BK499 hg; have NB500_499 := nbg BK499 hg; replace BK499 := bkq BK499 hb; clear hb hbox hg) | ((with_reducible refine gate_dst (N := 8) rfl ?_); refine bxe (N := 8) (cs := #[.int .i64 0, .int .i64 0]) (t := 23) ?_; intro gb501 hg w74 hbox hb; have BK501 := Aside0.mk (hbox); have GW501 : Aside0 (w.heap.size ≤ gb501) := gwx hg; have GE501 : Aside0 (w.heap.size ≤ gb501) := gwx hg; replace HB := Aside0.mk (below_step blx hb); have NB499_501 := nbl BK499 hg; have NB501_499 := nbg BK499 hg; replace BK499 := bkq BK499 hb; have NB500_501 := nbl BK500 hg; have NB501_500 := nbg BK500 hg; replace BK500 := bkq BK500 hb; clear hb hbox hg; have hnb75 := NB499_500.out; have hnc75 := NB500_499.out; have hnb76 := NB499_501.out; have hnc76 := NB501_499.out; obtain ⟨hcz77_0, hcz77_1, hfz77_0, hfz77_1⟩ := c2_ BK499; have hnb78 := NB500_501.out; have hnc78 := NB501_500.out; obtain ⟨hcz79_0, hcz79_1, hfz79_0, hfz79_1⟩ := c2_ BK500) | ((with_reducible refine gate_dst (N := 15) rfl ?_); refine Kd.R_lit k23 _ 23 ?hg (N := 15) ?hd (xs := ([(⟨a0_0, a0_1⟩ : S23), (⟨a2_0, a2_1⟩ : S23)] : List (S23))) (inner := [.int .i64 a0_0, .int .i64 a0_1, .int .i64 a2_0, .int .i64 a2_1]) (ok := fun _ => True) (okp := fun _ => True) ?hr ?hp (fun _ hk => hk) trivial (Below.refl _ _) (Nat.le_refl _) (by simp) ?_; (case hd => rfl); (case hg => rfl); (case hr => first | (go_simp; done) | (go_simp; rfl)); (case hp => exact (Reps.c2 (show Kd.M k23 _ _ _ (⟨a0_0, a0_1⟩ : S23) [.int .i64 a0_0, .int .i64 a0_1] from (k23_mkM _ _ _ (⟨a0_0, a0_1⟩ : S23) )) (Reps.c2 (show Kd.M k23 _ _ _ (⟨a2_0, a2_1⟩ : S23) [.int .i64 a2_0, .int .i64 a2_1] from (k23_mkM _ _ _ (⟨a2_0, a2_1⟩ : S23) )) (Reps.none _ _)))); intro v503 w80 ho81 hb hg_ hnew_; clear hg_ hnew_; (first | rw [← Ny502.out] at ho81 | (simp only [Int.reduceToNat] at ho81; rw [← Ny502.out] at ho81)); have HO504 := Aside0.mk (Kd.R_lower (Kd.R_newB (Kd.R_newB (Kd.R_newB ho81 (g := gb499) (o := .cells #[.int .i64 a0_0, .int .i64 a0_1] 23 (0, 0)) bkx) (g := gb500) (o := .cells #[.int .i64 a2_0, .int .i64 a2_1] 23 (0, 0)) bkx) (g := gb501) (o := .cells #[.int .i64 0, .int .i64 0] 23 (0, 0)) bkx) (below_size blx)); replace BK499 := bkq BK499 hb; replace BK500 := bkq BK500 hb; replace BK501 := bkq BK501 hb; replace HB := Aside0.mk (below_step blx hb); clear hb ho81; obtain ⟨Ao82, co82, eo82⟩ := Kd.R_slice HO504.out; subst eo82) | ((with_reducible refine gate_callee (f := 65) rfl ?_); refine goesL_ (some 16) rfl rfl Tryd.func65 (by kernel_rfl) rfl #[.slice Ao82 y502.length co82] rfl agx ?_; (with_reducible refine (money_seen.calls k _ _ y502 t505 t506 false _ ?side1 ?side2 A5.out (by first | exact HG0.out | exact Kd.C_below HG0.out blx)).mono ?_); (case side1 => exact crx HO504); (case side2 => exact (Kd.R_reads' HO504.out).2.1); rintro e w83 ⟨rfl, hb⟩; refine ⟨_, rfl, ?_⟩; replace HO504 := hoq HO504 hb; replace BK499 := bkq BK499 hb; replace BK500 := bkq BK500 hb; replace BK501 := bkq BK501 hb; replace HB := Aside0.mk (below_step blx hb); (try clear hb); (try clear hb2); (try clear hk); (try clear hi)) | ((with_reducible refine gate_dst (N := 10) rfl ?_); refine bxe (N := 10) (cs := #[.int .i64 0, .int .i64 0]) (t := 23) ?_; intro gb508 hg w84 hbox hb; replace HO504 := Aside0.mk (Kd.R_below (Kd.R_elderB (by (with_reducible repeat (first | apply Kd.R_alloc | apply Kd.R_drewN | apply Kd.R_drew)); exact HO504.out) gb508 (Nat.le_of_eq hg.symm)) hb); have BK508 := Aside0.mk (hbox); have GW508 : Aside0 (w.heap.size ≤ gb508) := gwx hg; have GE508 : Aside0 (w.heap.size ≤ gb508) := gwx hg; replace HB := Aside0.mk (below_step blx hb); have NB499_508 := nbl BK499 hg; have NB508_499 := nbg BK499 hg; replace BK499 := bkq BK499 hb; have NB500_508 := nbl BK500 hg; have NB508_500 := nbg BK500 hg; replace BK500 := bkq BK500 hb; have NB501_508 := nbl BK501 hg; have NB508_501 := nbg BK501 hg; replace BK501 := bkq BK501 hb; clear hb hbox hg; have hnb85 := NB508_499.out; have hnc85 := NB499_508.out; have hnb86 := NB508_500.out; have hnc86 := NB500_508.out; have hnb87 := NB508_501.out; have hnc87 := NB501_508.out; obtain ⟨hcz88_0, hcz88_1, hfz88_0, hfz88_1⟩ := c2_ BK508; obtain ⟨hcz89_0, hcz89_1, hfz89_0, hfz89_1⟩ := c2_ BK501))
  refine bodyPost_ret (results_ct rfl _ _ gb501 23 #[.int .i64 t505, .int .i64 t506] (0, 0) _ rfl (by (with_reducible repeat (first | refine blk_drewN ?_ _ | refine blk_drew ?_ | refine blk_alloc ?_ _)); refine blk_put (cs := #[.int .i64 t505, .int .i64 0]) ?_ 1 _ rfl; (with_reducible repeat (first | refine blk_drewN ?_ _ | refine blk_drew ?_ | refine blk_alloc ?_ _)); refine blk_put (cs := #[.int .i64 0, .int .i64 0]) ?_ 0 _ rfl; (with_reducible repeat (first | refine blk_drewN ?_ _ | refine blk_drew ?_ | refine blk_alloc ?_ _)); refine blk_far ?_ NB501_508.out _; (with_reducible repeat (first | refine blk_drewN ?_ _ | refine blk_drew ?_ | refine blk_alloc ?_ _)); refine blk_far ?_ NB501_508.out _; (with_reducible repeat (first | refine blk_drewN ?_ _ | refine blk_drew ?_ | refine blk_alloc ?_ _)); exact BK501.out) Tryd.underlying23 rfl (by kernel_rfl)) rfl ?_
  exact ⟨by first | rfl | (simp [errW_none, errW_some] <;> rfl) | (simp [*, errW_none, errW_some] <;> rfl), blx⟩
end Go.Proofs.YtnjhjaifmgjljaaDoor.PM
end

section
namespace Go.Proofs.YtnjhjaifmgjljaaDoor.PM
open Go.RowKit Go.Proofs.YtnjhjaifmgjljaaDoorW.PrintWords Go.Proofs.YtnjhjaifmgjljaaDoorW.PrintLast Go.Proofs.YtnjhjaifmgjljaaDoorW.PrintMore
attribute [local go_sem] max2_int min2_int max_two min_two max_three min_three max_four min_four
set_option linter.unusedVariables false
set_option linter.unusedSimpArgs false
def bits_Mul64.f (a0 : Int) (a1 : Int) : Option (Int × Int) := if 0 ≤ a0 ∧ a0 < 18446744073709551616 ∧ 0 ≤ a1 ∧ a1 < 18446744073709551616 then some (a0 * a1 / 18446744073709551616, a0 * a1 % 18446744073709551616) else none
theorem bits_Mul64.calls (a0 : Int) (a1 : Int) (r1 : Int) (r2 : Int) (w : World) (h : bits_Mul64.f a0 a1 = some (r1, r2)) :
    Calls Tryd.prog 75 #[.int .u64 a0, .int .u64 a1] w fun e w' => e = .returned (.tuple #[.int .u64 r1, .int .u64 r2]) ∧ Drawn0 w w' := by
  unfold bits_Mul64.f at h
  by_cases hc : 0 ≤ a0 ∧ a0 < 18446744073709551616 ∧ 0 ≤ a1 ∧ a1 < 18446744073709551616
  · rw [if_pos hc] at h
    obtain ⟨h0, h1, h2, h3⟩ := hc
    obtain ⟨x, rfl⟩ := Int.eq_ofNat_of_zero_le h0
    obtain ⟨y, rfl⟩ := Int.eq_ofNat_of_zero_le h2
    simp only [Option.some.injEq, Prod.mk.injEq] at h
    obtain ⟨rfl, rfl⟩ := h
    exact (Tryd.bits_Mul64 x y (by omega) (by omega) w).mono fun e w' ⟨he, hw⟩ => ⟨by rw [he]; simp, by subst hw; exact Drawn0.refl _⟩
  · rw [if_neg hc] at h; cases h
end Go.Proofs.YtnjhjaifmgjljaaDoor.PM
end
