-- Part 4 of the texts of the claim SA (wrote by programs: words of the kit's print.sh, printed functions; and my own texts; joined by wip/tools/pack.py).
import Derived.Test.YtnjhjaifmgjljaaDoorSA3

section
namespace Go.Proofs.YtnjhjaifmgjljaaDoor.PM
open Go.RowKit Go.Proofs.YtnjhjaifmgjljaaDoorW.PrintWords Go.Proofs.YtnjhjaifmgjljaaDoorW.PrintLast Go.Proofs.YtnjhjaifmgjljaaDoorW.PrintMore
attribute [local go_sem] max2_int min2_int max_two min_two max_three min_three max_four min_four
set_option linter.unusedVariables false
set_option linter.unusedSimpArgs false
def money_Times.j0 : Nat → Bool → Bool → Int → Bool → Option (Int × Int)
 | 0, _, _, _, _ => none
 | k + 1, x8, x10, x12, x45 => if x45 = true then ((money_fault.f 1).bind fun bt526 => (some (bt526.1, bt526.2))) else (if (x8 != x10) = true then ((money_cents.f (wrap64 (-(wrap64 (x12))))).bind fun bt528 => (some (bt528.1, bt528.2))) else ((money_cents.f (wrap64 (x12))).bind fun bt530 => (some (bt530.1, bt530.2))))
def money_Times.f (k : Nat) (a0_0 : Int) (a0_1 : Int) (a1_0 : Int) (a1_1 : Int) : Option (Int × Int) := (money_of.f k a0_0 a0_1 1 a1_0 a1_1 2).bind fun bt516 => (if bt516.2.2 = true then ((money_amount.f a0_1).bind fun bt520 => ((money_amount.f a1_1).bind fun bt522 => ((bits_Mul64.f bt520.1 bt522.1).bind fun bt524 => (if bt524.1 > 0 then (money_Times.j0 k bt520.2 bt522.2 bt524.2 true) else (money_Times.j0 k bt520.2 bt522.2 bt524.2 (decide (bt524.2 > 9999999999999))))))) else (some (bt516.1, bt516.2.1)))
theorem money_Times.mono_l : ∀ k, (∀ y0 y1 y2 y3, LeO (money_Times.j0 k y0 y1 y2 y3) (money_Times.j0 (k + 1) y0 y1 y2 y3))
 | 0 => fun _ _ _ _ r h => by simp [money_Times.j0] at h
 | k + 1 => by
  have ih0 := money_Times.mono_l k
  ·intro y0 y1 y2 y3
   unfold money_Times.j0
   repeat' first
   | (with_reducible exact ih0 _ _ _ _)
   | (with_reducible exact money_of.mono _ _ _ _ _ _ _)
   | (with_reducible exact LeO.refl _)
   | (with_reducible exact LeO.none _)
   | (with_reducible refine LeO.ite ?_ ?_)
   | (with_reducible refine LeO.bind ?_ (fun _ => ?_))
   | exact ih0 _ _ _ _
   | exact money_of.mono _ _ _ _ _ _ _
   | exact LeO.none _
   | refine LeO.ite ?_ ?_
   | refine LeO.bind ?_ (fun _ => ?_)
theorem money_Times.mono : ∀ a0 a1 a2 a3 k, LeO (money_Times.f k a0 a1 a2 a3) (money_Times.f (k + 1) a0 a1 a2 a3) := by
 intro a0 a1 a2 a3 k
 have ih0 := money_Times.mono_l k
 unfold money_Times.f
 repeat' first
   | (with_reducible exact ih0 _ _ _ _)
   | (with_reducible exact money_of.mono _ _ _ _ _ _ _)
   | (with_reducible exact LeO.refl _)
   | (with_reducible exact LeO.none _)
   | (with_reducible refine LeO.ite ?_ ?_)
   | (with_reducible refine LeO.bind ?_ (fun _ => ?_))
   | exact ih0 _ _ _ _
   | exact money_of.mono _ _ _ _ _ _ _
   | exact LeO.none _
   | refine LeO.ite ?_ ?_
   | refine LeO.bind ?_ (fun _ => ?_)
set_option maxHeartbeats 8000000 in
set_option maxRecDepth 100000 in
theorem money_Times.calls (k : Nat) (a0_0 : Int) (a0_1 : Int) (a1_0 : Int) (a1_1 : Int) (r1 : Int) (r2 : Int) (w : World) (h : money_Times.f k a0_0 a0_1 a1_0 a1_1 = some (r1, r2)) (hg0 : Kd.C k87 w (some ⟨0, 0, none⟩) gtab0.length gtab0) :
  Calls Tryd.prog 41 #[.agg #[.int .i64 a0_0, .int .i64 a0_1], .agg #[.int .i64 a1_0, .int .i64 a1_1]] w fun e w' => e = .returned (.agg #[.int .i64 r1, .int .i64 r2]) ∧ Below w.heap.size w w' := by
 have HG0 := Aside0.mk hg0
 clear hg0
 have hu23 := Tryd.underlying23
 have HB := Aside0.mk (Below.refl w.heap.size w)
 have H : ((money_of.f k a0_0 a0_1 1 a1_0 a1_1 2).bind fun bt516 => (if bt516.2.2 = true then ((money_amount.f a0_1).bind fun bt520 => ((money_amount.f a1_1).bind fun bt522 => ((bits_Mul64.f bt520.1 bt522.1).bind fun bt524 => (if bt524.1 > 0 then (money_Times.j0 k bt520.2 bt522.2 bt524.2 true) else (money_Times.j0 k bt520.2 bt522.2 bt524.2 (decide (bt524.2 > 9999999999999))))))) else (some (bt516.1, bt516.2.1)))) = some (r1, r2) := h
 clear h
 replace H := Option.bind_eq_some_iff.mp H
 obtain ⟨⟨t516, t517, t518⟩, A30, H⟩ := H
 replace H : (if t518 = true then ((money_amount.f a0_1).bind fun bt520 => ((money_amount.f a1_1).bind fun bt522 => ((bits_Mul64.f bt520.1 bt522.1).bind fun bt524 => (if bt524.1 > 0 then (money_Times.j0 k bt520.2 bt522.2 bt524.2 true) else (money_Times.j0 k bt520.2 bt522.2 bt524.2 (decide (bt524.2 > 9999999999999))))))) else (some (t516, t517))) = some (r1, r2) := H
 have A3 := Aside0.mk A30
 clear A30
 by_cases c4 : t518 = true
 ·subst c4
  have H1 : ((money_amount.f a0_1).bind fun bt520 => ((money_amount.f a1_1).bind fun bt522 => ((bits_Mul64.f bt520.1 bt522.1).bind fun bt524 => (if bt524.1 > 0 then (money_Times.j0 k bt520.2 bt522.2 bt524.2 true) else (money_Times.j0 k bt520.2 bt522.2 bt524.2 (decide (bt524.2 > 9999999999999))))))) = some (r1, r2) := by rw [if_pos rfl] at H; exact H
  clear H
  have H := H1
  clear H1
  replace H := Option.bind_eq_some_iff.mp H
  obtain ⟨⟨t520, t521⟩, A50, H⟩ := H
  replace H : ((money_amount.f a1_1).bind fun bt522 => ((bits_Mul64.f t520 bt522.1).bind fun bt524 => (if bt524.1 > 0 then (money_Times.j0 k t521 bt522.2 bt524.2 true) else (money_Times.j0 k t521 bt522.2 bt524.2 (decide (bt524.2 > 9999999999999)))))) = some (r1, r2) := H
  have A5 := Aside0.mk A50
  clear A50
  replace H := Option.bind_eq_some_iff.mp H
  obtain ⟨⟨t522, t523⟩, A60, H⟩ := H
  replace H : ((bits_Mul64.f t520 t522).bind fun bt524 => (if bt524.1 > 0 then (money_Times.j0 k t521 t523 bt524.2 true) else (money_Times.j0 k t521 t523 bt524.2 (decide (bt524.2 > 9999999999999))))) = some (r1, r2) := H
  have A6 := Aside0.mk A60
  clear A60
  replace H := Option.bind_eq_some_iff.mp H
  obtain ⟨⟨t524, t525⟩, A70, H⟩ := H
  replace H : (if t524 > 0 then (money_Times.j0 k t521 t523 t525 true) else (money_Times.j0 k t521 t523 t525 (decide (t525 > 9999999999999)))) = some (r1, r2) := H
  have A7 := Aside0.mk A70
  clear A70
  have HC8 := Aside0.mk H
  clear H
  go_enter Tryd.func41, Tryd.ntmps41
  go_upto_region 7 with (first | ((with_reducible refine gate_dst (N := 2) rfl ?_); refine bxe (N := 2) (cs := #[.int .i64 a0_0, .int .i64 a0_1]) (t := 23) ?_; intro gb513 hg w9 hbox hb; have BK513 := Aside0.mk (hbox); have GW513 : Aside0 (w.heap.size ≤ gb513) := gwx hg; have GE513 : Aside0 (w.heap.size ≤ gb513) := gwx hg; replace HB := Aside0.mk (below_step blx hb); clear hb hbox hg) | ((with_reducible refine gate_dst (N := 3) rfl ?_); refine bxe (N := 3) (cs := #[.int .i64 a1_0, .int .i64 a1_1]) (t := 23) ?_; intro gb514 hg w10 hbox hb; have BK514 := Aside0.mk (hbox); have GW514 : Aside0 (w.heap.size ≤ gb514) := gwx hg; have GE514 : Aside0 (w.heap.size ≤ gb514) := gwx hg; replace HB := Aside0.mk (below_step blx hb); have NB513_514 := nbl BK513 hg; have NB514_513 := nbg BK513 hg; replace BK513 := bkq BK513 hb; clear hb hbox hg) | ((with_reducible refine gate_dst (N := 4) rfl ?_); refine bxe (N := 4) (cs := #[.int .i64 0, .int .i64 0]) (t := 23) ?_; intro gb515 hg w11 hbox hb; have BK515 := Aside0.mk (hbox); have GW515 : Aside0 (w.heap.size ≤ gb515) := gwx hg; have GE515 : Aside0 (w.heap.size ≤ gb515) := gwx hg; replace HB := Aside0.mk (below_step blx hb); have NB513_515 := nbl BK513 hg; have NB515_513 := nbg BK513 hg; replace BK513 := bkq BK513 hb; have NB514_515 := nbl BK514 hg; have NB515_514 := nbg BK514 hg; replace BK514 := bkq BK514 hb; clear hb hbox hg; have hnb12 := NB513_514.out; have hnc12 := NB514_513.out; have hnb13 := NB513_515.out; have hnc13 := NB515_513.out; obtain ⟨hcz14_0, hcz14_1, hfz14_0, hfz14_1⟩ := c2_ BK513; have hnb15 := NB514_515.out; have hnc15 := NB515_514.out; obtain ⟨hcz16_0, hcz16_1, hfz16_0, hfz16_1⟩ := c2_ BK514) | ((with_reducible refine gate_callee (f := 74) rfl ?_); refine goesL_ (some 16) rfl rfl Tryd.func74 (by kernel_rfl) rfl #[.agg #[.int .i64 a0_0, .int .i64 a0_1], .int .i64 1, .agg #[.int .i64 a1_0, .int .i64 a1_1], .int .i64 2] rfl agx ?_; (with_reducible refine (money_of.calls k a0_0 a0_1 1 a1_0 a1_1 2 t516 t517 true _ A3.out (by first | exact HG0.out | exact Kd.C_below HG0.out blx)).mono ?_); rintro e w17 ⟨rfl, hb⟩; refine ⟨_, rfl, ?_⟩; replace BK513 := bkq BK513 hb; replace BK514 := bkq BK514 hb; replace BK515 := bkq BK515 hb; replace HB := Aside0.mk (below_step blx hb); (try clear hb); (try clear hb2); (try clear hk); (try clear hi)) | ((with_reducible refine gate_dst (N := 5) rfl ?_); refine bxe (N := 5) (cs := #[.int .i64 0, .int .i64 0]) (t := 23) ?_; intro gb519 hg w18 hbox hb; have BK519 := Aside0.mk (hbox); have GW519 : Aside0 (w.heap.size ≤ gb519) := gwx hg; have GE519 : Aside0 (w.heap.size ≤ gb519) := gwx hg; replace HB := Aside0.mk (below_step blx hb); have NB513_519 := nbl BK513 hg; have NB519_513 := nbg BK513 hg; replace BK513 := bkq BK513 hb; have NB514_519 := nbl BK514 hg; have NB519_514 := nbg BK514 hg; replace BK514 := bkq BK514 hb; have NB515_519 := nbl BK515 hg; have NB519_515 := nbg BK515 hg; replace BK515 := bkq BK515 hb; clear hb hbox hg; have hnb19 := NB519_513.out; have hnc19 := NB513_519.out; have hnb20 := NB519_514.out; have hnc20 := NB514_519.out; have hnb21 := NB519_515.out; have hnc21 := NB515_519.out; obtain ⟨hcz22_0, hcz22_1, hfz22_0, hfz22_1⟩ := c2_ BK519; obtain ⟨hcz23_0, hcz23_1, hfz23_0, hfz23_1⟩ := c2_ BK513) | ((with_reducible refine gate_callee (f := 67) rfl ?_); refine goesL_ (some 25) rfl rfl Tryd.func67 (by kernel_rfl) rfl #[.int .i64 a0_1] rfl agx ?_; (with_reducible refine (money_amount.calls a0_1 t520 t521 _ A5.out).mono ?_); rintro e w' ⟨rfl, ⟨nd, rfl⟩⟩; refine ⟨_, rfl, ?_⟩; obtain ⟨hcz24_0, hcz24_1, hfz24_0, hfz24_1⟩ := c2_ BK514) | ((with_reducible refine gate_callee (f := 67) rfl ?_); refine goesL_ (some 31) rfl rfl Tryd.func67 (by kernel_rfl) rfl #[.int .i64 a1_1] rfl agx ?_; (with_reducible refine (money_amount.calls a1_1 t522 t523 _ A6.out).mono ?_); rintro e w' ⟨rfl, ⟨nd, rfl⟩⟩; refine ⟨_, rfl, ?_⟩) | ((with_reducible refine gate_callee (f := 75) rfl ?_); refine goesL_ (some 37) rfl rfl Tryd.func75 (by kernel_rfl) rfl #[.int .u64 t520, .int .u64 t522] rfl agx ?_; (with_reducible refine (bits_Mul64.calls t520 t522 t524 t525 _ A7.out).mono ?_); rintro e w' ⟨rfl, ⟨nd, rfl⟩⟩; refine ⟨_, rfl, ?_⟩))
  (try simp only [Act.put, List.setIfInBounds_toArray, List.set_cons_zero, List.set_cons_succ])
  go_cut [45] (fun v45 wc => ∃ (kq : Nat) (x45_7 : Bool), v45 = .bool x45_7 ∧ Aside0 (money_Times.j0 kq t521 t523 t525 x45_7 = some (r1, r2)) ∧ Aside0 (kq ≤ k) ∧ Aside0 (wc.heap[gb513]? = some (.cells #[.int .i64 a0_0, .int .i64 a0_1] 23 (0, 0))) ∧ Aside0 (wc.heap[gb514]? = some (.cells #[.int .i64 a1_0, .int .i64 a1_1] 23 (0, 0))) ∧ Aside0 (wc.heap[gb515]? = some (.cells #[.int .i64 0, .int .i64 0] 23 (0, 0))) ∧ Aside0 (wc.heap[gb519]? = some (.cells #[.int .i64 t516, .int .i64 t517] 23 (0, 0))) ∧ Aside0 (Below w.heap.size w wc))
  case first =>
   have H := HC8.out
   clear HC8
   by_cases c25 : t524 > 0
   ·rw [if_pos c25] at H
    have c25b0 : decide (0 < t524) = true := decide_eq_true c25
    clear c25
    (first | rw [c25b0] | (simp only [i64_w, i32_w]; rw [c25b0]) | skip)
    have H' := Aside0.mk H
    clear H
    go_wp2
    go_meet
    case rel => exact ⟨_, (true), (by first | rfl | (simp; done) | (simp [*]; done)), H', ⟨by first | omega | exact Nat.le_refl _⟩, ⟨bkx⟩, ⟨bkx⟩, ⟨bkx⟩, ⟨by (with_reducible repeat (first | refine blk_drewN ?_ _ | refine blk_drew ?_ | refine blk_alloc ?_ _)); refine blk_put (cs := #[.int .i64 t516, .int .i64 0]) ?_ 1 _ rfl; (with_reducible repeat (first | refine blk_drewN ?_ _ | refine blk_drew ?_ | refine blk_alloc ?_ _)); refine blk_put (cs := #[.int .i64 0, .int .i64 0]) ?_ 0 _ rfl; (with_reducible repeat (first | refine blk_drewN ?_ _ | refine blk_drew ?_ | refine blk_alloc ?_ _)); exact BK519.out⟩, ⟨blx⟩⟩
   ·rw [if_neg c25] at H
    have c25b0 : decide (0 < t524) = false := decide_eq_false c25
    clear c25
    (first | rw [c25b0] | (simp only [i64_w, i32_w]; rw [c25b0]) | skip)
    have H' := Aside0.mk H
    clear H
    go_wp2
    go_meet
    case rel => exact ⟨_, (decide (t525 > 9999999999999)), (by first | rfl | (simp; done) | (simp [*]; done)), H', ⟨by first | omega | exact Nat.le_refl _⟩, ⟨bkx⟩, ⟨bkx⟩, ⟨bkx⟩, ⟨by (with_reducible repeat (first | refine blk_drewN ?_ _ | refine blk_drew ?_ | refine blk_alloc ?_ _)); refine blk_put (cs := #[.int .i64 t516, .int .i64 0]) ?_ 1 _ rfl; (with_reducible repeat (first | refine blk_drewN ?_ _ | refine blk_drew ?_ | refine blk_alloc ?_ _)); refine blk_put (cs := #[.int .i64 0, .int .i64 0]) ?_ 0 _ rfl; (with_reducible repeat (first | refine blk_drewN ?_ _ | refine blk_drew ?_ | refine blk_alloc ?_ _)); exact BK519.out⟩, ⟨blx⟩⟩
  case rest =>
   clear HC8
   try clear c1
   try clear c2
   try clear p2
   try clear c4
   try clear c6
   try clear c7
   try clear c12
   try clear c13
   try clear c15
   try clear c19
   try clear c20
   try clear c21
   try clear c25
   try clear c25b0
   try clear hcz14_0
   try clear hcz14_1
   try clear hcz16_0
   try clear hcz16_1
   try clear hcz22_0
   try clear hcz22_1
   try clear hcz23_0
   try clear hcz23_1
   try clear hcz24_0
   try clear hcz24_1
   try clear hfz14_0
   try clear hfz14_1
   try clear hfz16_0
   try clear hfz16_1
   try clear hfz22_0
   try clear hfz22_1
   try clear hfz23_0
   try clear hfz23_1
   try clear hfz24_0
   try clear hfz24_1
   obtain ⟨kq, x45_7, rfl, HA, HJ7, BK513, BK514, BK515, BK519, HB⟩ := hcut
   cases kq with
   | zero => exact absurd HA.out (by simp [money_Times.j0])
   | succ kj7 =>
    have H := HA.out
    clear HA
    simp only [money_Times.j0] at H
    by_cases c26 : x45_7 = true
    ·subst c26
     have H1 : ((money_fault.f 1).bind fun bt526 => (some (bt526.1, bt526.2))) = some (r1, r2) := by rw [if_pos rfl] at H; exact H
     clear H
     have H := H1
     clear H1
     replace H := Option.bind_eq_some_iff.mp H
     obtain ⟨⟨t526, t527⟩, A270, H⟩ := H
     replace H : (some (t526, t527)) = some (r1, r2) := H
     have A27 := Aside0.mk A270
     clear A270
     simp only [Option.some.injEq, Prod.mk.injEq] at H
     obtain ⟨rfl, rfl⟩ := H
     go_wp2_with (first | ((with_reducible refine gate_callee (f := 59) rfl ?_); refine goesL_ (some 46) rfl rfl Tryd.func59 (by kernel_rfl) rfl #[.int .i64 1] rfl agx ?_; (with_reducible refine (money_fault.calls 1 t526 t527 _ A27.out).mono ?_); rintro e w28 ⟨rfl, hb⟩; refine ⟨_, rfl, ?_⟩; replace BK513 := bkq BK513 hb; replace BK514 := bkq BK514 hb; replace BK515 := bkq BK515 hb; replace BK519 := bkq BK519 hb; replace HB := Aside0.mk (below_step blx hb); (try clear hb); (try clear hb2); (try clear hk); (try clear hi); have hnb29 := NB515_513.out; have hnc29 := NB513_515.out; have hnb30 := NB515_514.out; have hnc30 := NB514_515.out; have hnb31 := NB515_519.out; have hnc31 := NB519_515.out; obtain ⟨hcz32_0, hcz32_1, hfz32_0, hfz32_1⟩ := c2_ BK515))
     refine bodyPost_ret (results_cell_row rfl _ _ gb515 23 #[.int .i64 t526, .int .i64 t527] (0, 0) _ rfl (by (with_reducible repeat (first | refine blk_drewN ?_ _ | refine blk_drew ?_ | refine blk_alloc ?_ _)); refine blk_put (cs := #[.int .i64 t526, .int .i64 0]) ?_ 1 _ rfl; (with_reducible repeat (first | refine blk_drewN ?_ _ | refine blk_drew ?_ | refine blk_alloc ?_ _)); refine blk_put (cs := #[.int .i64 0, .int .i64 0]) ?_ 0 _ rfl; (with_reducible repeat (first | refine blk_drewN ?_ _ | refine blk_drew ?_ | refine blk_alloc ?_ _)); exact BK515.out) Tryd.underlying23 rfl (by kernel_rfl)) rfl ?_
     exact ⟨by first | rfl | (simp [errW_none, errW_some] <;> rfl) | (simp [*, errW_none, errW_some] <;> rfl), blx⟩
    ·replace c26 := Bool.eq_false_iff.mpr c26
     subst c26
     have H1 : (if (t521 != t523) = true then ((money_cents.f (wrap64 (-(wrap64 (t525))))).bind fun bt528 => (some (bt528.1, bt528.2))) else ((money_cents.f (wrap64 (t525))).bind fun bt530 => (some (bt530.1, bt530.2)))) = some (r1, r2) := by rw [if_neg (show ¬ (false = true) by decide)] at H; exact H
     clear H
     have H := H1
     clear H1
     by_cases c33 : (t521 != t523) = true
     ·rw [if_pos c33] at H
      have c33b0 : (t521 != t523) = true := c33
      (try (have c33b1 : decide (t521 = t523) = false := by simpa using c33))
      (try (have c33b2 : (t521 == t523) = false := by simpa using c33))
      (try (have c33b3 : ¬ (t521 = t523) := by simpa using c33))
      clear c33
      replace H := Option.bind_eq_some_iff.mp H
      obtain ⟨⟨t528, t529⟩, A340, H⟩ := H
      replace H : (some (t528, t529)) = some (r1, r2) := H
      have A34 := Aside0.mk A340
      clear A340
      simp only [Option.some.injEq, Prod.mk.injEq] at H
      obtain ⟨rfl, rfl⟩ := H
      go_wp2_with (first | ((with_reducible refine gate_callee (f := 69) rfl ?_); refine goesL_ (some 53) rfl rfl Tryd.func69 (by kernel_rfl) rfl #[.int .i64 (wrap64 (-(wrap64 (t525))))] rfl agx ?_; (with_reducible refine (money_cents.calls (wrap64 (-(wrap64 (t525)))) t528 t529 _ A34.out (by first | exact HG0.out | exact Kd.C_below HG0.out blx)).mono ?_); rintro e w35 ⟨rfl, hb⟩; refine ⟨_, rfl, ?_⟩; replace BK513 := bkq BK513 hb; replace BK514 := bkq BK514 hb; replace BK515 := bkq BK515 hb; replace BK519 := bkq BK519 hb; replace HB := Aside0.mk (below_step blx hb); (try clear hb); (try clear hb2); (try clear hk); (try clear hi); have hnb36 := NB515_513.out; have hnc36 := NB513_515.out; have hnb37 := NB515_514.out; have hnc37 := NB514_515.out; have hnb38 := NB515_519.out; have hnc38 := NB519_515.out; obtain ⟨hcz39_0, hcz39_1, hfz39_0, hfz39_1⟩ := c2_ BK515))
      refine bodyPost_ret (results_cell_row rfl _ _ gb515 23 #[.int .i64 t528, .int .i64 t529] (0, 0) _ rfl (by (with_reducible repeat (first | refine blk_drewN ?_ _ | refine blk_drew ?_ | refine blk_alloc ?_ _)); refine blk_put (cs := #[.int .i64 t528, .int .i64 0]) ?_ 1 _ rfl; (with_reducible repeat (first | refine blk_drewN ?_ _ | refine blk_drew ?_ | refine blk_alloc ?_ _)); refine blk_put (cs := #[.int .i64 0, .int .i64 0]) ?_ 0 _ rfl; (with_reducible repeat (first | refine blk_drewN ?_ _ | refine blk_drew ?_ | refine blk_alloc ?_ _)); exact BK515.out) Tryd.underlying23 rfl (by kernel_rfl)) rfl ?_
      exact ⟨by first | rfl | (simp [errW_none, errW_some] <;> rfl) | (simp [*, errW_none, errW_some] <;> rfl), blx⟩
     ·rw [if_neg c33] at H
      have c33b0 : (t521 != t523) = false := by simpa using c33
      (try (have c33b1 : decide (t521 = t523) = true := by simpa using c33))
      (try (have c33b2 : (t521 == t523) = true := by simpa using c33))
      clear c33
      replace H := Option.bind_eq_some_iff.mp H
      obtain ⟨⟨t530, t531⟩, A400, H⟩ := H
      replace H : (some (t530, t531)) = some (r1, r2) := H
      have A40 := Aside0.mk A400
      clear A400
      simp only [Option.some.injEq, Prod.mk.injEq] at H
      obtain ⟨rfl, rfl⟩ := H
      go_wp2_with (first | ((with_reducible refine gate_callee (f := 69) rfl ?_); refine goesL_ (some 56) rfl rfl Tryd.func69 (by kernel_rfl) rfl #[.int .i64 (wrap64 (t525))] rfl agx ?_; (with_reducible refine (money_cents.calls (wrap64 (t525)) t530 t531 _ A40.out (by first | exact HG0.out | exact Kd.C_below HG0.out blx)).mono ?_); rintro e w41 ⟨rfl, hb⟩; refine ⟨_, rfl, ?_⟩; replace BK513 := bkq BK513 hb; replace BK514 := bkq BK514 hb; replace BK515 := bkq BK515 hb; replace BK519 := bkq BK519 hb; replace HB := Aside0.mk (below_step blx hb); (try clear hb); (try clear hb2); (try clear hk); (try clear hi); have hnb42 := NB515_513.out; have hnc42 := NB513_515.out; have hnb43 := NB515_514.out; have hnc43 := NB514_515.out; have hnb44 := NB515_519.out; have hnc44 := NB519_515.out; obtain ⟨hcz45_0, hcz45_1, hfz45_0, hfz45_1⟩ := c2_ BK515))
      refine bodyPost_ret (results_cell_row rfl _ _ gb515 23 #[.int .i64 t530, .int .i64 t531] (0, 0) _ rfl (by (with_reducible repeat (first | refine blk_drewN ?_ _ | refine blk_drew ?_ | refine blk_alloc ?_ _)); refine blk_put (cs := #[.int .i64 t530, .int .i64 0]) ?_ 1 _ rfl; (with_reducible repeat (first | refine blk_drewN ?_ _ | refine blk_drew ?_ | refine blk_alloc ?_ _)); refine blk_put (cs := #[.int .i64 0, .int .i64 0]) ?_ 0 _ rfl; (with_reducible repeat (first | refine blk_drewN ?_ _ | refine blk_drew ?_ | refine blk_alloc ?_ _)); exact BK515.out) Tryd.underlying23 rfl (by kernel_rfl)) rfl ?_
      exact ⟨by first | rfl | (simp [errW_none, errW_some] <;> rfl) | (simp [*, errW_none, errW_some] <;> rfl), blx⟩
 ·replace c4 := Bool.eq_false_iff.mpr c4
  subst c4
  have H1 : (some (t516, t517)) = some (r1, r2) := by rw [if_neg (show ¬ (false = true) by decide)] at H; exact H
  clear H
  have H := H1
  clear H1
  simp only [Option.some.injEq, Prod.mk.injEq] at H
  obtain ⟨rfl, rfl⟩ := H
  go_enter Tryd.func41, Tryd.ntmps41
  go_wp2_with (first | ((with_reducible refine gate_dst (N := 2) rfl ?_); refine bxe (N := 2) (cs := #[.int .i64 a0_0, .int .i64 a0_1]) (t := 23) ?_; intro gb513 hg w46 hbox hb; have BK513 := Aside0.mk (hbox); have GW513 : Aside0 (w.heap.size ≤ gb513) := gwx hg; have GE513 : Aside0 (w.heap.size ≤ gb513) := gwx hg; replace HB := Aside0.mk (below_step blx hb); clear hb hbox hg) | ((with_reducible refine gate_dst (N := 3) rfl ?_); refine bxe (N := 3) (cs := #[.int .i64 a1_0, .int .i64 a1_1]) (t := 23) ?_; intro gb514 hg w47 hbox hb; have BK514 := Aside0.mk (hbox); have GW514 : Aside0 (w.heap.size ≤ gb514) := gwx hg; have GE514 : Aside0 (w.heap.size ≤ gb514) := gwx hg; replace HB := Aside0.mk (below_step blx hb); have NB513_514 := nbl BK513 hg; have NB514_513 := nbg BK513 hg; replace BK513 := bkq BK513 hb; clear hb hbox hg) | ((with_reducible refine gate_dst (N := 4) rfl ?_); refine bxe (N := 4) (cs := #[.int .i64 0, .int .i64 0]) (t := 23) ?_; intro gb515 hg w48 hbox hb; have BK515 := Aside0.mk (hbox); have GW515 : Aside0 (w.heap.size ≤ gb515) := gwx hg; have GE515 : Aside0 (w.heap.size ≤ gb515) := gwx hg; replace HB := Aside0.mk (below_step blx hb); have NB513_515 := nbl BK513 hg; have NB515_513 := nbg BK513 hg; replace BK513 := bkq BK513 hb; have NB514_515 := nbl BK514 hg; have NB515_514 := nbg BK514 hg; replace BK514 := bkq BK514 hb; clear hb hbox hg; have hnb49 := NB513_514.out; have hnc49 := NB514_513.out; have hnb50 := NB513_515.out; have hnc50 := NB515_513.out; obtain ⟨hcz51_0, hcz51_1, hfz51_0, hfz51_1⟩ := c2_ BK513; have hnb52 := NB514_515.out; have hnc52 := NB515_514.out; obtain ⟨hcz53_0, hcz53_1, hfz53_0, hfz53_1⟩ := c2_ BK514) | ((with_reducible refine gate_callee (f := 74) rfl ?_); refine goesL_ (some 16) rfl rfl Tryd.func74 (by kernel_rfl) rfl #[.agg #[.int .i64 a0_0, .int .i64 a0_1], .int .i64 1, .agg #[.int .i64 a1_0, .int .i64 a1_1], .int .i64 2] rfl agx ?_; (with_reducible refine (money_of.calls k a0_0 a0_1 1 a1_0 a1_1 2 t516 t517 false _ A3.out (by first | exact HG0.out | exact Kd.C_below HG0.out blx)).mono ?_); rintro e w54 ⟨rfl, hb⟩; refine ⟨_, rfl, ?_⟩; replace BK513 := bkq BK513 hb; replace BK514 := bkq BK514 hb; replace BK515 := bkq BK515 hb; replace HB := Aside0.mk (below_step blx hb); (try clear hb); (try clear hb2); (try clear hk); (try clear hi)) | ((with_reducible refine gate_dst (N := 5) rfl ?_); refine bxe (N := 5) (cs := #[.int .i64 0, .int .i64 0]) (t := 23) ?_; intro gb519 hg w55 hbox hb; have BK519 := Aside0.mk (hbox); have GW519 : Aside0 (w.heap.size ≤ gb519) := gwx hg; have GE519 : Aside0 (w.heap.size ≤ gb519) := gwx hg; replace HB := Aside0.mk (below_step blx hb); have NB513_519 := nbl BK513 hg; have NB519_513 := nbg BK513 hg; replace BK513 := bkq BK513 hb; have NB514_519 := nbl BK514 hg; have NB519_514 := nbg BK514 hg; replace BK514 := bkq BK514 hb; have NB515_519 := nbl BK515 hg; have NB519_515 := nbg BK515 hg; replace BK515 := bkq BK515 hb; clear hb hbox hg; have hnb56 := NB519_513.out; have hnc56 := NB513_519.out; have hnb57 := NB519_514.out; have hnc57 := NB514_519.out; have hnb58 := NB519_515.out; have hnc58 := NB515_519.out; obtain ⟨hcz59_0, hcz59_1, hfz59_0, hfz59_1⟩ := c2_ BK519; obtain ⟨hcz60_0, hcz60_1, hfz60_0, hfz60_1⟩ := c2_ BK515))
  refine bodyPost_ret (results_cell_row rfl _ _ gb515 23 #[.int .i64 t516, .int .i64 t517] (0, 0) _ rfl (by (with_reducible repeat (first | refine blk_drewN ?_ _ | refine blk_drew ?_ | refine blk_alloc ?_ _)); refine blk_put (cs := #[.int .i64 t516, .int .i64 0]) ?_ 1 _ rfl; (with_reducible repeat (first | refine blk_drewN ?_ _ | refine blk_drew ?_ | refine blk_alloc ?_ _)); refine blk_put (cs := #[.int .i64 0, .int .i64 0]) ?_ 0 _ rfl; (with_reducible repeat (first | refine blk_drewN ?_ _ | refine blk_drew ?_ | refine blk_alloc ?_ _)); refine blk_far ?_ NB515_519.out _; (with_reducible repeat (first | refine blk_drewN ?_ _ | refine blk_drew ?_ | refine blk_alloc ?_ _)); refine blk_far ?_ NB515_519.out _; (with_reducible repeat (first | refine blk_drewN ?_ _ | refine blk_drew ?_ | refine blk_alloc ?_ _)); exact BK515.out) Tryd.underlying23 rfl (by kernel_rfl)) rfl ?_
  exact ⟨by first | rfl | (simp [errW_none, errW_some] <;> rfl) | (simp [*, errW_none, errW_some] <;> rfl), blx⟩
end Go.Proofs.YtnjhjaifmgjljaaDoor.PM
end

section
namespace Go.Proofs.YtnjhjaifmgjljaaDoor.PM
open Go.RowKit Go.Proofs.YtnjhjaifmgjljaaDoorW.PrintWords Go.Proofs.YtnjhjaifmgjljaaDoorW.PrintLast Go.Proofs.YtnjhjaifmgjljaaDoorW.PrintMore
attribute [local go_sem] max2_int min2_int max_two min_two max_three min_three max_four min_four
set_option linter.unusedVariables false
set_option linter.unusedSimpArgs false
def money_table.l0 : Nat → List (S72) → List (S72) → Int → Int → Option (Bool)
 | 0, _, _, _, _ => none
 | k + 1, x0, x5, x6, x7 => if x7 < x6 then (if 0 ≤ x7 then (if x7 < (x5.length : Int) then (if x7 = 0 then (if ((rd_T72 x5 x7).f0) = 0 then (if x7 > 0 then (if 0 ≤ (wrap64 (x7 - 1)) then (if (wrap64 (x7 - 1)) < (x0.length : Int) then (if ((rd_T72 x5 x7).f0) ≤ ((rd_T72 x0 (wrap64 (x7 - 1))).f0) then (some false) else (if ((rd_T72 x5 x7).f0) > 9999999999999 then (some false) else (if ((rd_T72 x5 x7).f1) < 0 then (some false) else (if ((rd_T72 x5 x7).f1) > 1000000 then (some false) else (money_table.l0 k x0 x5 x6 (wrap64 (x7 + 1))))))) else (none)) else (none)) else (if ((rd_T72 x5 x7).f0) > 9999999999999 then (some false) else (if ((rd_T72 x5 x7).f1) < 0 then (some false) else (if ((rd_T72 x5 x7).f1) > 1000000 then (some false) else (money_table.l0 k x0 x5 x6 (wrap64 (x7 + 1))))))) else (some false)) else (if x7 > 0 then (if 0 ≤ (wrap64 (x7 - 1)) then (if (wrap64 (x7 - 1)) < (x0.length : Int) then (if ((rd_T72 x5 x7).f0) ≤ ((rd_T72 x0 (wrap64 (x7 - 1))).f0) then (some false) else (if ((rd_T72 x5 x7).f0) > 9999999999999 then (some false) else (if ((rd_T72 x5 x7).f1) < 0 then (some false) else (if ((rd_T72 x5 x7).f1) > 1000000 then (some false) else (money_table.l0 k x0 x5 x6 (wrap64 (x7 + 1))))))) else (none)) else (none)) else (if ((rd_T72 x5 x7).f0) > 9999999999999 then (some false) else (if ((rd_T72 x5 x7).f1) < 0 then (some false) else (if ((rd_T72 x5 x7).f1) > 1000000 then (some false) else (money_table.l0 k x0 x5 x6 (wrap64 (x7 + 1)))))))) else (none)) else (none)) else (if (x0.length : Int) ≥ 1 then (some (decide ((x0.length : Int) ≤ 8))) else (some false))
def money_table.f (k : Nat) (l0 : List (S72)) : Option (Bool) := money_table.l0 k l0 l0 (l0.length : Int) 0
theorem money_table.mono_l : ∀ k, (∀ y0 y1 y2 y3, LeO (money_table.l0 k y0 y1 y2 y3) (money_table.l0 (k + 1) y0 y1 y2 y3))
 | 0 => fun _ _ _ _ r h => by simp [money_table.l0] at h
 | k + 1 => by
  have ih0 := money_table.mono_l k
  ·intro y0 y1 y2 y3
   unfold money_table.l0
   repeat' first
   | (with_reducible exact ih0 _ _ _ _)
   | (with_reducible exact LeO.refl _)
   | (with_reducible exact LeO.none _)
   | (with_reducible refine LeO.ite ?_ ?_)
   | (with_reducible refine LeO.bind ?_ (fun _ => ?_))
   | exact ih0 _ _ _ _
   | exact LeO.none _
   | refine LeO.ite ?_ ?_
   | refine LeO.bind ?_ (fun _ => ?_)
theorem money_table.mono : ∀ a0 k, LeO (money_table.f k a0) (money_table.f (k + 1) a0) := by
 intro a0 k
 have ih0 := money_table.mono_l k
 unfold money_table.f
 repeat' first
   | (with_reducible exact ih0 _ _ _ _)
   | (with_reducible exact LeO.refl _)
   | (with_reducible exact LeO.none _)
   | (with_reducible refine LeO.ite ?_ ?_)
   | (with_reducible refine LeO.bind ?_ (fun _ => ?_))
   | exact ih0 _ _ _ _
   | exact LeO.none _
   | refine LeO.ite ?_ ?_
   | refine LeO.bind ?_ (fun _ => ?_)
set_option maxHeartbeats 8000000 in
set_option maxRecDepth 100000 in
theorem money_table.calls (k : Nat) (A0 : Option Addr) (c0 : Nat) (l0 : List (S72)) (r : Bool) (w : World) (hr0 : Kd.C k72 w A0 l0.length l0) (hc0 : l0.length ≤ c0) (h : money_table.f k l0 = some r) :
  Calls Tryd.prog 78 #[.slice A0 l0.length c0] w fun e w' => e = .returned (.bool r) ∧ Below w.heap.size w w' := by
 have hu72 := Tryd.underlying72
 have HR0 := Aside0.mk hr0
 have HC0 := Aside0.mk hc0
 clear hr0 hc0
 have HB := Aside0.mk (Below.refl w.heap.size w)
 have H : (money_table.l0 k l0 l0 (l0.length : Int) 0) = some r := h
 clear h
 have H' := Aside0.mk H
 clear H
 go_enter Tryd.func78, Tryd.ntmps78
 go_wp2
 repeat (go_quiet (fail); try go_wp2)
 go_loopg [7] k (fun kq v7 w' => ∃ (x7_1 : Int), v7 = .int .i64 x7_1 ∧ Aside0 (money_table.l0 kq l0 l0 (l0.length : Int) x7_1 = some r) ∧ Aside0 (kq ≤ k) ∧ Aside0 (Below w.heap.size w w'))
 case atStart => exact ⟨(0), (by first | rfl | (simp; done) | (simp [*]; done)), H', ⟨Nat.le_refl _⟩, ⟨blx⟩⟩
 case round =>
  clear H'
  obtain ⟨x7_1, rfl, HA, HK1, HB⟩ := hrel
  cases gk with
  | zero => exact absurd HA.out (by simp [money_table.l0])
  | succ k1 =>
   have H := HA.out
   clear HA
   simp only [money_table.l0] at H
   by_cases c2 : x7_1 < (l0.length : Int)
   ·rw [if_pos c2] at H
    have c2b0 : decide (x7_1 < (l0.length : Int)) = true := decide_eq_true c2
    clear c2
    by_cases c3 : 0 ≤ x7_1
    ·rw [if_pos c3] at H
     have c3b0 : decide (0 ≤ x7_1) = true := decide_eq_true c3
     clear c3
     by_cases c4 : x7_1 < (l0.length : Int)
     ·rw [if_pos c4] at H
      have c4b0 : decide (x7_1 < (l0.length : Int)) = true := decide_eq_true c4
      clear c4
      by_cases c5 : x7_1 = 0
      ·rw [if_pos c5] at H
       have c5b0 : (x7_1 == 0) = true := beq_iff_eq.mpr c5
       have c5b1 : (x7_1 != 0) = false := bne_eq_false_iff_eq.mpr c5
       clear c5
       by_cases c6 : ((rd_T72 l0 x7_1).f0) = 0
       ·rw [if_pos c6] at H
        have c6b0 : (((rd_T72 l0 x7_1).f0) == 0) = true := beq_iff_eq.mpr c6
        have c6b1 : (((rd_T72 l0 x7_1).f0) != 0) = false := bne_eq_false_iff_eq.mpr c6
        clear c6
        by_cases c7 : x7_1 > 0
        ·rw [if_pos c7] at H
         have c7b0 : decide (0 < x7_1) = true := decide_eq_true c7
         clear c7
         obtain ⟨ji8, hji8⟩ : ∃ j_ : Int, (wrap64 (x7_1 - 1)) = j_ := ⟨_, rfl⟩
         replace H : (if 0 ≤ (ji8) then (if (ji8) < (l0.length : Int) then (if ((rd_T72 l0 x7_1).f0) ≤ ((rd_T72 l0 (ji8)).f0) then (some false) else (if ((rd_T72 l0 x7_1).f0) > 9999999999999 then (some false) else (if ((rd_T72 l0 x7_1).f1) < 0 then (some false) else (if ((rd_T72 l0 x7_1).f1) > 1000000 then (some false) else (money_table.l0 k1 l0 l0 (l0.length : Int) (wrap64 (x7_1 + 1))))))) else (none)) else (none)) = some r := by first | (rw [hji8] at H; exact H) | (simp only [hji8] at H ⊢; exact H)
         have hji8w : (IntKind.i64.wrap (x7_1 - 1)) = ji8 := (i64_w _).trans hji8
         by_cases c9 : 0 ≤ (ji8)
         ·rw [if_pos c9] at H
          have c9b0 : decide (0 ≤ (ji8)) = true := decide_eq_true c9
          clear c9
          by_cases c10 : (ji8) < (l0.length : Int)
          ·rw [if_pos c10] at H
           have c10b0 : decide ((ji8) < (l0.length : Int)) = true := decide_eq_true c10
           clear c10
           by_cases c11 : ((rd_T72 l0 x7_1).f0) ≤ ((rd_T72 l0 (ji8)).f0)
           ·rw [if_pos c11] at H
            have c11b0 : decide (((rd_T72 l0 x7_1).f0) ≤ ((rd_T72 l0 (ji8)).f0)) = true := decide_eq_true c11
            clear c11
            obtain rfl := Option.some.inj H
            have p637 : 0 ≤ (x7_1 : Int) := odx
            have q637 : x7_1 < (l0.length : Int) := odx
            obtain ⟨ad637, e637, hx637_0, hx637_1⟩ := at_T72 HR0.out x7_1 p637 q637
            cases e637
            replace hx637_0 := (HB.out.cell (World.block_lt_of_cell? w _ hx637_0)).trans hx637_0
            replace hx637_1 := (HB.out.cell (World.block_lt_of_cell? w _ hx637_1)).trans hx637_1
            replace p637 := eq_true p637
            replace q637 := eq_true q637
            go_wp2_with (first | ((with_reducible refine gate_dst (N := 4) rfl ?_); (try (refine gate_guard (by rfl) ?_; dsimp only)); refine bxe (N := 4) (cs := #[.int .i64 0, .int .i64 0]) (t := 72) ?_; intro gb638 hg w12 hbox hb; have BK638 := Aside0.mk (hbox); have GW638 : Aside0 (w.heap.size ≤ gb638) := gwx hg; have GE638 : Aside0 (w.heap.size ≤ gb638) := gwx hg; replace HB := Aside0.mk (below_step blx hb); clear hb hbox hg; obtain ⟨hcz13_0, hcz13_1, hfz13_0, hfz13_1⟩ := c2_ BK638; have p639 : 0 ≤ ((ji8) : Int) := odx; have q639 : (ji8) < (l0.length : Int) := odx; obtain ⟨ad639, e639, hx639_0, hx639_1⟩ := at_T72 HR0.out (ji8) p639 q639; obtain rfl : ad637 = ad639 := (by injection e639); have hn639_0 : ad637.block ≠ gb638 := Nat.ne_of_lt (Nat.lt_of_lt_of_le (by have := World.block_lt_of_cell? _ _ hx639_0; first | rwa [add_block] at this | exact this) GW638.out); have hn639_1 : ad637.block ≠ gb638 := Nat.ne_of_lt (Nat.lt_of_lt_of_le (by have := World.block_lt_of_cell? _ _ hx639_0; first | rwa [add_block] at this | exact this) GW638.out); replace hx639_0 := (HB.out.cell (World.block_lt_of_cell? w _ hx639_0)).trans hx639_0; replace hx639_1 := (HB.out.cell (World.block_lt_of_cell? w _ hx639_1)).trans hx639_1; replace hx639_0 := (cell_far (p := ⟨gb638, 0, none⟩) (by first | (rw [add_block]; exact hn639_0) | (show (Addr.add _ _).block ≠ _; rw [add_block]; exact hn639_0) | exact hn639_0) (.int .i64 ((rd_T72 l0 x7_1).f0))).trans hx639_0; replace hx639_1 := (cell_far (p := ⟨gb638, 0, none⟩) (by first | (rw [add_block]; exact hn639_0) | (show (Addr.add _ _).block ≠ _; rw [add_block]; exact hn639_0) | exact hn639_0) (.int .i64 ((rd_T72 l0 x7_1).f0))).trans hx639_1; replace hx639_0 := (cell_far (p := ⟨gb638, 1, none⟩) (by first | (rw [add_block]; exact hn639_1) | (show (Addr.add _ _).block ≠ _; rw [add_block]; exact hn639_1) | exact hn639_1) (.int .i64 ((rd_T72 l0 x7_1).f1))).trans hx639_0; replace hx639_1 := (cell_far (p := ⟨gb638, 1, none⟩) (by first | (rw [add_block]; exact hn639_1) | (show (Addr.add _ _).block ≠ _; rw [add_block]; exact hn639_1) | exact hn639_1) (.int .i64 ((rd_T72 l0 x7_1).f1))).trans hx639_1; (try have hy639_0 := fun (n_ : Nat) => (show ((((w12.drewN n_).setCell ⟨gb638, 0, none⟩ (.int .i64 ((rd_T72 l0 x7_1).f0))).setCell ⟨gb638, 1, none⟩ (.int .i64 ((rd_T72 l0 x7_1).f1)))).cell? _ = some _ from hx639_0)); (try have hy639_1 := fun (n_ : Nat) => (show ((((w12.drewN n_).setCell ⟨gb638, 0, none⟩ (.int .i64 ((rd_T72 l0 x7_1).f0))).setCell ⟨gb638, 1, none⟩ (.int .i64 ((rd_T72 l0 x7_1).f1)))).cell? _ = some _ from hx639_1)); clear hn639_0; clear hn639_1; replace p639 := eq_true p639; replace q639 := eq_true q639))
            repeat (go_quiet (first | ((with_reducible refine gate_dst (N := 4) rfl ?_); (try (refine gate_guard (by rfl) ?_; dsimp only)); refine bxe (N := 4) (cs := #[.int .i64 0, .int .i64 0]) (t := 72) ?_; intro gb638 hg w12 hbox hb; have BK638 := Aside0.mk (hbox); have GW638 : Aside0 (w.heap.size ≤ gb638) := gwx hg; have GE638 : Aside0 (w.heap.size ≤ gb638) := gwx hg; replace HB := Aside0.mk (below_step blx hb); clear hb hbox hg; obtain ⟨hcz13_0, hcz13_1, hfz13_0, hfz13_1⟩ := c2_ BK638; have p639 : 0 ≤ ((ji8) : Int) := odx; have q639 : (ji8) < (l0.length : Int) := odx; obtain ⟨ad639, e639, hx639_0, hx639_1⟩ := at_T72 HR0.out (ji8) p639 q639; obtain rfl : ad637 = ad639 := (by injection e639); have hn639_0 : ad637.block ≠ gb638 := Nat.ne_of_lt (Nat.lt_of_lt_of_le (by have := World.block_lt_of_cell? _ _ hx639_0; first | rwa [add_block] at this | exact this) GW638.out); have hn639_1 : ad637.block ≠ gb638 := Nat.ne_of_lt (Nat.lt_of_lt_of_le (by have := World.block_lt_of_cell? _ _ hx639_0; first | rwa [add_block] at this | exact this) GW638.out); replace hx639_0 := (HB.out.cell (World.block_lt_of_cell? w _ hx639_0)).trans hx639_0; replace hx639_1 := (HB.out.cell (World.block_lt_of_cell? w _ hx639_1)).trans hx639_1; replace hx639_0 := (cell_far (p := ⟨gb638, 0, none⟩) (by first | (rw [add_block]; exact hn639_0) | (show (Addr.add _ _).block ≠ _; rw [add_block]; exact hn639_0) | exact hn639_0) (.int .i64 ((rd_T72 l0 x7_1).f0))).trans hx639_0; replace hx639_1 := (cell_far (p := ⟨gb638, 0, none⟩) (by first | (rw [add_block]; exact hn639_0) | (show (Addr.add _ _).block ≠ _; rw [add_block]; exact hn639_0) | exact hn639_0) (.int .i64 ((rd_T72 l0 x7_1).f0))).trans hx639_1; replace hx639_0 := (cell_far (p := ⟨gb638, 1, none⟩) (by first | (rw [add_block]; exact hn639_1) | (show (Addr.add _ _).block ≠ _; rw [add_block]; exact hn639_1) | exact hn639_1) (.int .i64 ((rd_T72 l0 x7_1).f1))).trans hx639_0; replace hx639_1 := (cell_far (p := ⟨gb638, 1, none⟩) (by first | (rw [add_block]; exact hn639_1) | (show (Addr.add _ _).block ≠ _; rw [add_block]; exact hn639_1) | exact hn639_1) (.int .i64 ((rd_T72 l0 x7_1).f1))).trans hx639_1; (try have hy639_0 := fun (n_ : Nat) => (show ((((w12.drewN n_).setCell ⟨gb638, 0, none⟩ (.int .i64 ((rd_T72 l0 x7_1).f0))).setCell ⟨gb638, 1, none⟩ (.int .i64 ((rd_T72 l0 x7_1).f1)))).cell? _ = some _ from hx639_0)); (try have hy639_1 := fun (n_ : Nat) => (show ((((w12.drewN n_).setCell ⟨gb638, 0, none⟩ (.int .i64 ((rd_T72 l0 x7_1).f0))).setCell ⟨gb638, 1, none⟩ (.int .i64 ((rd_T72 l0 x7_1).f1)))).cell? _ = some _ from hx639_1)); clear hn639_0; clear hn639_1; replace p639 := eq_true p639; replace q639 := eq_true q639)); try go_wp2_with (first | ((with_reducible refine gate_dst (N := 4) rfl ?_); (try (refine gate_guard (by rfl) ?_; dsimp only)); refine bxe (N := 4) (cs := #[.int .i64 0, .int .i64 0]) (t := 72) ?_; intro gb638 hg w12 hbox hb; have BK638 := Aside0.mk (hbox); have GW638 : Aside0 (w.heap.size ≤ gb638) := gwx hg; have GE638 : Aside0 (w.heap.size ≤ gb638) := gwx hg; replace HB := Aside0.mk (below_step blx hb); clear hb hbox hg; obtain ⟨hcz13_0, hcz13_1, hfz13_0, hfz13_1⟩ := c2_ BK638; have p639 : 0 ≤ ((ji8) : Int) := odx; have q639 : (ji8) < (l0.length : Int) := odx; obtain ⟨ad639, e639, hx639_0, hx639_1⟩ := at_T72 HR0.out (ji8) p639 q639; obtain rfl : ad637 = ad639 := (by injection e639); have hn639_0 : ad637.block ≠ gb638 := Nat.ne_of_lt (Nat.lt_of_lt_of_le (by have := World.block_lt_of_cell? _ _ hx639_0; first | rwa [add_block] at this | exact this) GW638.out); have hn639_1 : ad637.block ≠ gb638 := Nat.ne_of_lt (Nat.lt_of_lt_of_le (by have := World.block_lt_of_cell? _ _ hx639_0; first | rwa [add_block] at this | exact this) GW638.out); replace hx639_0 := (HB.out.cell (World.block_lt_of_cell? w _ hx639_0)).trans hx639_0; replace hx639_1 := (HB.out.cell (World.block_lt_of_cell? w _ hx639_1)).trans hx639_1; replace hx639_0 := (cell_far (p := ⟨gb638, 0, none⟩) (by first | (rw [add_block]; exact hn639_0) | (show (Addr.add _ _).block ≠ _; rw [add_block]; exact hn639_0) | exact hn639_0) (.int .i64 ((rd_T72 l0 x7_1).f0))).trans hx639_0; replace hx639_1 := (cell_far (p := ⟨gb638, 0, none⟩) (by first | (rw [add_block]; exact hn639_0) | (show (Addr.add _ _).block ≠ _; rw [add_block]; exact hn639_0) | exact hn639_0) (.int .i64 ((rd_T72 l0 x7_1).f0))).trans hx639_1; replace hx639_0 := (cell_far (p := ⟨gb638, 1, none⟩) (by first | (rw [add_block]; exact hn639_1) | (show (Addr.add _ _).block ≠ _; rw [add_block]; exact hn639_1) | exact hn639_1) (.int .i64 ((rd_T72 l0 x7_1).f1))).trans hx639_0; replace hx639_1 := (cell_far (p := ⟨gb638, 1, none⟩) (by first | (rw [add_block]; exact hn639_1) | (show (Addr.add _ _).block ≠ _; rw [add_block]; exact hn639_1) | exact hn639_1) (.int .i64 ((rd_T72 l0 x7_1).f1))).trans hx639_1; (try have hy639_0 := fun (n_ : Nat) => (show ((((w12.drewN n_).setCell ⟨gb638, 0, none⟩ (.int .i64 ((rd_T72 l0 x7_1).f0))).setCell ⟨gb638, 1, none⟩ (.int .i64 ((rd_T72 l0 x7_1).f1)))).cell? _ = some _ from hx639_0)); (try have hy639_1 := fun (n_ : Nat) => (show ((((w12.drewN n_).setCell ⟨gb638, 0, none⟩ (.int .i64 ((rd_T72 l0 x7_1).f0))).setCell ⟨gb638, 1, none⟩ (.int .i64 ((rd_T72 l0 x7_1).f1)))).cell? _ = some _ from hx639_1)); clear hn639_0; clear hn639_1; replace p639 := eq_true p639; replace q639 := eq_true q639)))
            go_ret
            exact ⟨by first | rfl | (simp [errW_none, errW_some] <;> rfl) | (simp only [← hji8]; first | rfl | (simp [errW_none, errW_some] <;> rfl)) | (simp [*, errW_none, errW_some] <;> rfl), blx⟩
           ·rw [if_neg c11] at H
            have c11b0 : decide (((rd_T72 l0 x7_1).f0) ≤ ((rd_T72 l0 (ji8)).f0)) = false := decide_eq_false c11
            clear c11
            by_cases c14 : ((rd_T72 l0 x7_1).f0) > 9999999999999
            ·rw [if_pos c14] at H
             have c14b0 : decide (9999999999999 < ((rd_T72 l0 x7_1).f0)) = true := decide_eq_true c14
             clear c14
             obtain rfl := Option.some.inj H
             have p637 : 0 ≤ (x7_1 : Int) := odx
             have q637 : x7_1 < (l0.length : Int) := odx
             obtain ⟨ad637, e637, hx637_0, hx637_1⟩ := at_T72 HR0.out x7_1 p637 q637
             cases e637
             replace hx637_0 := (HB.out.cell (World.block_lt_of_cell? w _ hx637_0)).trans hx637_0
             replace hx637_1 := (HB.out.cell (World.block_lt_of_cell? w _ hx637_1)).trans hx637_1
             replace p637 := eq_true p637
             replace q637 := eq_true q637
             go_wp2_with (first | ((with_reducible refine gate_dst (N := 4) rfl ?_); (try (refine gate_guard (by rfl) ?_; dsimp only)); refine bxe (N := 4) (cs := #[.int .i64 0, .int .i64 0]) (t := 72) ?_; intro gb638 hg w15 hbox hb; have BK638 := Aside0.mk (hbox); have GW638 : Aside0 (w.heap.size ≤ gb638) := gwx hg; have GE638 : Aside0 (w.heap.size ≤ gb638) := gwx hg; replace HB := Aside0.mk (below_step blx hb); clear hb hbox hg; obtain ⟨hcz16_0, hcz16_1, hfz16_0, hfz16_1⟩ := c2_ BK638; have p639 : 0 ≤ ((ji8) : Int) := odx; have q639 : (ji8) < (l0.length : Int) := odx; obtain ⟨ad639, e639, hx639_0, hx639_1⟩ := at_T72 HR0.out (ji8) p639 q639; obtain rfl : ad637 = ad639 := (by injection e639); have hn639_0 : ad637.block ≠ gb638 := Nat.ne_of_lt (Nat.lt_of_lt_of_le (by have := World.block_lt_of_cell? _ _ hx639_0; first | rwa [add_block] at this | exact this) GW638.out); have hn639_1 : ad637.block ≠ gb638 := Nat.ne_of_lt (Nat.lt_of_lt_of_le (by have := World.block_lt_of_cell? _ _ hx639_0; first | rwa [add_block] at this | exact this) GW638.out); replace hx639_0 := (HB.out.cell (World.block_lt_of_cell? w _ hx639_0)).trans hx639_0; replace hx639_1 := (HB.out.cell (World.block_lt_of_cell? w _ hx639_1)).trans hx639_1; replace hx639_0 := (cell_far (p := ⟨gb638, 0, none⟩) (by first | (rw [add_block]; exact hn639_0) | (show (Addr.add _ _).block ≠ _; rw [add_block]; exact hn639_0) | exact hn639_0) (.int .i64 ((rd_T72 l0 x7_1).f0))).trans hx639_0; replace hx639_1 := (cell_far (p := ⟨gb638, 0, none⟩) (by first | (rw [add_block]; exact hn639_0) | (show (Addr.add _ _).block ≠ _; rw [add_block]; exact hn639_0) | exact hn639_0) (.int .i64 ((rd_T72 l0 x7_1).f0))).trans hx639_1; replace hx639_0 := (cell_far (p := ⟨gb638, 1, none⟩) (by first | (rw [add_block]; exact hn639_1) | (show (Addr.add _ _).block ≠ _; rw [add_block]; exact hn639_1) | exact hn639_1) (.int .i64 ((rd_T72 l0 x7_1).f1))).trans hx639_0; replace hx639_1 := (cell_far (p := ⟨gb638, 1, none⟩) (by first | (rw [add_block]; exact hn639_1) | (show (Addr.add _ _).block ≠ _; rw [add_block]; exact hn639_1) | exact hn639_1) (.int .i64 ((rd_T72 l0 x7_1).f1))).trans hx639_1; (try have hy639_0 := fun (n_ : Nat) => (show ((((w15.drewN n_).setCell ⟨gb638, 0, none⟩ (.int .i64 ((rd_T72 l0 x7_1).f0))).setCell ⟨gb638, 1, none⟩ (.int .i64 ((rd_T72 l0 x7_1).f1)))).cell? _ = some _ from hx639_0)); (try have hy639_1 := fun (n_ : Nat) => (show ((((w15.drewN n_).setCell ⟨gb638, 0, none⟩ (.int .i64 ((rd_T72 l0 x7_1).f0))).setCell ⟨gb638, 1, none⟩ (.int .i64 ((rd_T72 l0 x7_1).f1)))).cell? _ = some _ from hx639_1)); clear hn639_0; clear hn639_1; replace p639 := eq_true p639; replace q639 := eq_true q639))
             repeat (go_quiet (first | ((with_reducible refine gate_dst (N := 4) rfl ?_); (try (refine gate_guard (by rfl) ?_; dsimp only)); refine bxe (N := 4) (cs := #[.int .i64 0, .int .i64 0]) (t := 72) ?_; intro gb638 hg w15 hbox hb; have BK638 := Aside0.mk (hbox); have GW638 : Aside0 (w.heap.size ≤ gb638) := gwx hg; have GE638 : Aside0 (w.heap.size ≤ gb638) := gwx hg; replace HB := Aside0.mk (below_step blx hb); clear hb hbox hg; obtain ⟨hcz16_0, hcz16_1, hfz16_0, hfz16_1⟩ := c2_ BK638; have p639 : 0 ≤ ((ji8) : Int) := odx; have q639 : (ji8) < (l0.length : Int) := odx; obtain ⟨ad639, e639, hx639_0, hx639_1⟩ := at_T72 HR0.out (ji8) p639 q639; obtain rfl : ad637 = ad639 := (by injection e639); have hn639_0 : ad637.block ≠ gb638 := Nat.ne_of_lt (Nat.lt_of_lt_of_le (by have := World.block_lt_of_cell? _ _ hx639_0; first | rwa [add_block] at this | exact this) GW638.out); have hn639_1 : ad637.block ≠ gb638 := Nat.ne_of_lt (Nat.lt_of_lt_of_le (by have := World.block_lt_of_cell? _ _ hx639_0; first | rwa [add_block] at this | exact this) GW638.out); replace hx639_0 := (HB.out.cell (World.block_lt_of_cell? w _ hx639_0)).trans hx639_0; replace hx639_1 := (HB.out.cell (World.block_lt_of_cell? w _ hx639_1)).trans hx639_1; replace hx639_0 := (cell_far (p := ⟨gb638, 0, none⟩) (by first | (rw [add_block]; exact hn639_0) | (show (Addr.add _ _).block ≠ _; rw [add_block]; exact hn639_0) | exact hn639_0) (.int .i64 ((rd_T72 l0 x7_1).f0))).trans hx639_0; replace hx639_1 := (cell_far (p := ⟨gb638, 0, none⟩) (by first | (rw [add_block]; exact hn639_0) | (show (Addr.add _ _).block ≠ _; rw [add_block]; exact hn639_0) | exact hn639_0) (.int .i64 ((rd_T72 l0 x7_1).f0))).trans hx639_1; replace hx639_0 := (cell_far (p := ⟨gb638, 1, none⟩) (by first | (rw [add_block]; exact hn639_1) | (show (Addr.add _ _).block ≠ _; rw [add_block]; exact hn639_1) | exact hn639_1) (.int .i64 ((rd_T72 l0 x7_1).f1))).trans hx639_0; replace hx639_1 := (cell_far (p := ⟨gb638, 1, none⟩) (by first | (rw [add_block]; exact hn639_1) | (show (Addr.add _ _).block ≠ _; rw [add_block]; exact hn639_1) | exact hn639_1) (.int .i64 ((rd_T72 l0 x7_1).f1))).trans hx639_1; (try have hy639_0 := fun (n_ : Nat) => (show ((((w15.drewN n_).setCell ⟨gb638, 0, none⟩ (.int .i64 ((rd_T72 l0 x7_1).f0))).setCell ⟨gb638, 1, none⟩ (.int .i64 ((rd_T72 l0 x7_1).f1)))).cell? _ = some _ from hx639_0)); (try have hy639_1 := fun (n_ : Nat) => (show ((((w15.drewN n_).setCell ⟨gb638, 0, none⟩ (.int .i64 ((rd_T72 l0 x7_1).f0))).setCell ⟨gb638, 1, none⟩ (.int .i64 ((rd_T72 l0 x7_1).f1)))).cell? _ = some _ from hx639_1)); clear hn639_0; clear hn639_1; replace p639 := eq_true p639; replace q639 := eq_true q639)); try go_wp2_with (first | ((with_reducible refine gate_dst (N := 4) rfl ?_); (try (refine gate_guard (by rfl) ?_; dsimp only)); refine bxe (N := 4) (cs := #[.int .i64 0, .int .i64 0]) (t := 72) ?_; intro gb638 hg w15 hbox hb; have BK638 := Aside0.mk (hbox); have GW638 : Aside0 (w.heap.size ≤ gb638) := gwx hg; have GE638 : Aside0 (w.heap.size ≤ gb638) := gwx hg; replace HB := Aside0.mk (below_step blx hb); clear hb hbox hg; obtain ⟨hcz16_0, hcz16_1, hfz16_0, hfz16_1⟩ := c2_ BK638; have p639 : 0 ≤ ((ji8) : Int) := odx; have q639 : (ji8) < (l0.length : Int) := odx; obtain ⟨ad639, e639, hx639_0, hx639_1⟩ := at_T72 HR0.out (ji8) p639 q639; obtain rfl : ad637 = ad639 := (by injection e639); have hn639_0 : ad637.block ≠ gb638 := Nat.ne_of_lt (Nat.lt_of_lt_of_le (by have := World.block_lt_of_cell? _ _ hx639_0; first | rwa [add_block] at this | exact this) GW638.out); have hn639_1 : ad637.block ≠ gb638 := Nat.ne_of_lt (Nat.lt_of_lt_of_le (by have := World.block_lt_of_cell? _ _ hx639_0; first | rwa [add_block] at this | exact this) GW638.out); replace hx639_0 := (HB.out.cell (World.block_lt_of_cell? w _ hx639_0)).trans hx639_0; replace hx639_1 := (HB.out.cell (World.block_lt_of_cell? w _ hx639_1)).trans hx639_1; replace hx639_0 := (cell_far (p := ⟨gb638, 0, none⟩) (by first | (rw [add_block]; exact hn639_0) | (show (Addr.add _ _).block ≠ _; rw [add_block]; exact hn639_0) | exact hn639_0) (.int .i64 ((rd_T72 l0 x7_1).f0))).trans hx639_0; replace hx639_1 := (cell_far (p := ⟨gb638, 0, none⟩) (by first | (rw [add_block]; exact hn639_0) | (show (Addr.add _ _).block ≠ _; rw [add_block]; exact hn639_0) | exact hn639_0) (.int .i64 ((rd_T72 l0 x7_1).f0))).trans hx639_1; replace hx639_0 := (cell_far (p := ⟨gb638, 1, none⟩) (by first | (rw [add_block]; exact hn639_1) | (show (Addr.add _ _).block ≠ _; rw [add_block]; exact hn639_1) | exact hn639_1) (.int .i64 ((rd_T72 l0 x7_1).f1))).trans hx639_0; replace hx639_1 := (cell_far (p := ⟨gb638, 1, none⟩) (by first | (rw [add_block]; exact hn639_1) | (show (Addr.add _ _).block ≠ _; rw [add_block]; exact hn639_1) | exact hn639_1) (.int .i64 ((rd_T72 l0 x7_1).f1))).trans hx639_1; (try have hy639_0 := fun (n_ : Nat) => (show ((((w15.drewN n_).setCell ⟨gb638, 0, none⟩ (.int .i64 ((rd_T72 l0 x7_1).f0))).setCell ⟨gb638, 1, none⟩ (.int .i64 ((rd_T72 l0 x7_1).f1)))).cell? _ = some _ from hx639_0)); (try have hy639_1 := fun (n_ : Nat) => (show ((((w15.drewN n_).setCell ⟨gb638, 0, none⟩ (.int .i64 ((rd_T72 l0 x7_1).f0))).setCell ⟨gb638, 1, none⟩ (.int .i64 ((rd_T72 l0 x7_1).f1)))).cell? _ = some _ from hx639_1)); clear hn639_0; clear hn639_1; replace p639 := eq_true p639; replace q639 := eq_true q639)))
             go_ret
             exact ⟨by first | rfl | (simp [errW_none, errW_some] <;> rfl) | (simp only [← hji8]; first | rfl | (simp [errW_none, errW_some] <;> rfl)) | (simp [*, errW_none, errW_some] <;> rfl), blx⟩
            ·rw [if_neg c14] at H
             have c14b0 : decide (9999999999999 < ((rd_T72 l0 x7_1).f0)) = false := decide_eq_false c14
             clear c14
             by_cases c17 : ((rd_T72 l0 x7_1).f1) < 0
             ·rw [if_pos c17] at H
              have c17b0 : decide (((rd_T72 l0 x7_1).f1) < 0) = true := decide_eq_true c17
              clear c17
              obtain rfl := Option.some.inj H
              have p637 : 0 ≤ (x7_1 : Int) := odx
              have q637 : x7_1 < (l0.length : Int) := odx
              obtain ⟨ad637, e637, hx637_0, hx637_1⟩ := at_T72 HR0.out x7_1 p637 q637
              cases e637
              replace hx637_0 := (HB.out.cell (World.block_lt_of_cell? w _ hx637_0)).trans hx637_0
              replace hx637_1 := (HB.out.cell (World.block_lt_of_cell? w _ hx637_1)).trans hx637_1
              replace p637 := eq_true p637
              replace q637 := eq_true q637
              go_wp2_with (first | ((with_reducible refine gate_dst (N := 4) rfl ?_); (try (refine gate_guard (by rfl) ?_; dsimp only)); refine bxe (N := 4) (cs := #[.int .i64 0, .int .i64 0]) (t := 72) ?_; intro gb638 hg w18 hbox hb; have BK638 := Aside0.mk (hbox); have GW638 : Aside0 (w.heap.size ≤ gb638) := gwx hg; have GE638 : Aside0 (w.heap.size ≤ gb638) := gwx hg; replace HB := Aside0.mk (below_step blx hb); clear hb hbox hg; obtain ⟨hcz19_0, hcz19_1, hfz19_0, hfz19_1⟩ := c2_ BK638; have p639 : 0 ≤ ((ji8) : Int) := odx; have q639 : (ji8) < (l0.length : Int) := odx; obtain ⟨ad639, e639, hx639_0, hx639_1⟩ := at_T72 HR0.out (ji8) p639 q639; obtain rfl : ad637 = ad639 := (by injection e639); have hn639_0 : ad637.block ≠ gb638 := Nat.ne_of_lt (Nat.lt_of_lt_of_le (by have := World.block_lt_of_cell? _ _ hx639_0; first | rwa [add_block] at this | exact this) GW638.out); have hn639_1 : ad637.block ≠ gb638 := Nat.ne_of_lt (Nat.lt_of_lt_of_le (by have := World.block_lt_of_cell? _ _ hx639_0; first | rwa [add_block] at this | exact this) GW638.out); replace hx639_0 := (HB.out.cell (World.block_lt_of_cell? w _ hx639_0)).trans hx639_0; replace hx639_1 := (HB.out.cell (World.block_lt_of_cell? w _ hx639_1)).trans hx639_1; replace hx639_0 := (cell_far (p := ⟨gb638, 0, none⟩) (by first | (rw [add_block]; exact hn639_0) | (show (Addr.add _ _).block ≠ _; rw [add_block]; exact hn639_0) | exact hn639_0) (.int .i64 ((rd_T72 l0 x7_1).f0))).trans hx639_0; replace hx639_1 := (cell_far (p := ⟨gb638, 0, none⟩) (by first | (rw [add_block]; exact hn639_0) | (show (Addr.add _ _).block ≠ _; rw [add_block]; exact hn639_0) | exact hn639_0) (.int .i64 ((rd_T72 l0 x7_1).f0))).trans hx639_1; replace hx639_0 := (cell_far (p := ⟨gb638, 1, none⟩) (by first | (rw [add_block]; exact hn639_1) | (show (Addr.add _ _).block ≠ _; rw [add_block]; exact hn639_1) | exact hn639_1) (.int .i64 ((rd_T72 l0 x7_1).f1))).trans hx639_0; replace hx639_1 := (cell_far (p := ⟨gb638, 1, none⟩) (by first | (rw [add_block]; exact hn639_1) | (show (Addr.add _ _).block ≠ _; rw [add_block]; exact hn639_1) | exact hn639_1) (.int .i64 ((rd_T72 l0 x7_1).f1))).trans hx639_1; (try have hy639_0 := fun (n_ : Nat) => (show ((((w18.drewN n_).setCell ⟨gb638, 0, none⟩ (.int .i64 ((rd_T72 l0 x7_1).f0))).setCell ⟨gb638, 1, none⟩ (.int .i64 ((rd_T72 l0 x7_1).f1)))).cell? _ = some _ from hx639_0)); (try have hy639_1 := fun (n_ : Nat) => (show ((((w18.drewN n_).setCell ⟨gb638, 0, none⟩ (.int .i64 ((rd_T72 l0 x7_1).f0))).setCell ⟨gb638, 1, none⟩ (.int .i64 ((rd_T72 l0 x7_1).f1)))).cell? _ = some _ from hx639_1)); clear hn639_0; clear hn639_1; replace p639 := eq_true p639; replace q639 := eq_true q639))
              repeat (go_quiet (first | ((with_reducible refine gate_dst (N := 4) rfl ?_); (try (refine gate_guard (by rfl) ?_; dsimp only)); refine bxe (N := 4) (cs := #[.int .i64 0, .int .i64 0]) (t := 72) ?_; intro gb638 hg w18 hbox hb; have BK638 := Aside0.mk (hbox); have GW638 : Aside0 (w.heap.size ≤ gb638) := gwx hg; have GE638 : Aside0 (w.heap.size ≤ gb638) := gwx hg; replace HB := Aside0.mk (below_step blx hb); clear hb hbox hg; obtain ⟨hcz19_0, hcz19_1, hfz19_0, hfz19_1⟩ := c2_ BK638; have p639 : 0 ≤ ((ji8) : Int) := odx; have q639 : (ji8) < (l0.length : Int) := odx; obtain ⟨ad639, e639, hx639_0, hx639_1⟩ := at_T72 HR0.out (ji8) p639 q639; obtain rfl : ad637 = ad639 := (by injection e639); have hn639_0 : ad637.block ≠ gb638 := Nat.ne_of_lt (Nat.lt_of_lt_of_le (by have := World.block_lt_of_cell? _ _ hx639_0; first | rwa [add_block] at this | exact this) GW638.out); have hn639_1 : ad637.block ≠ gb638 := Nat.ne_of_lt (Nat.lt_of_lt_of_le (by have := World.block_lt_of_cell? _ _ hx639_0; first | rwa [add_block] at this | exact this) GW638.out); replace hx639_0 := (HB.out.cell (World.block_lt_of_cell? w _ hx639_0)).trans hx639_0; replace hx639_1 := (HB.out.cell (World.block_lt_of_cell? w _ hx639_1)).trans hx639_1; replace hx639_0 := (cell_far (p := ⟨gb638, 0, none⟩) (by first | (rw [add_block]; exact hn639_0) | (show (Addr.add _ _).block ≠ _; rw [add_block]; exact hn639_0) | exact hn639_0) (.int .i64 ((rd_T72 l0 x7_1).f0))).trans hx639_0; replace hx639_1 := (cell_far (p := ⟨gb638, 0, none⟩) (by first | (rw [add_block]; exact hn639_0) | (show (Addr.add _ _).block ≠ _; rw [add_block]; exact hn639_0) | exact hn639_0) (.int .i64 ((rd_T72 l0 x7_1).f0))).trans hx639_1; replace hx639_0 := (cell_far (p := ⟨gb638, 1, none⟩) (by first | (rw [add_block]; exact hn639_1) | (show (Addr.add _ _).block ≠ _; rw [add_block]; exact hn639_1) | exact hn639_1) (.int .i64 ((rd_T72 l0 x7_1).f1))).trans hx639_0; replace hx639_1 := (cell_far (p := ⟨gb638, 1, none⟩) (by first | (rw [add_block]; exact hn639_1) | (show (Addr.add _ _).block ≠ _; rw [add_block]; exact hn639_1) | exact hn639_1) (.int .i64 ((rd_T72 l0 x7_1).f1))).trans hx639_1; (try have hy639_0 := fun (n_ : Nat) => (show ((((w18.drewN n_).setCell ⟨gb638, 0, none⟩ (.int .i64 ((rd_T72 l0 x7_1).f0))).setCell ⟨gb638, 1, none⟩ (.int .i64 ((rd_T72 l0 x7_1).f1)))).cell? _ = some _ from hx639_0)); (try have hy639_1 := fun (n_ : Nat) => (show ((((w18.drewN n_).setCell ⟨gb638, 0, none⟩ (.int .i64 ((rd_T72 l0 x7_1).f0))).setCell ⟨gb638, 1, none⟩ (.int .i64 ((rd_T72 l0 x7_1).f1)))).cell? _ = some _ from hx639_1)); clear hn639_0; clear hn639_1; replace p639 := eq_true p639; replace q639 := eq_true q639)); try go_wp2_with (first | ((with_reducible refine gate_dst (N := 4) rfl ?_); (try (refine gate_guard (by rfl) ?_; dsimp only)); refine bxe (N := 4) (cs := #[.int .i64 0, .int .i64 0]) (t := 72) ?_; intro gb638 hg w18 hbox hb; have BK638 := Aside0.mk (hbox); have GW638 : Aside0 (w.heap.size ≤ gb638) := gwx hg; have GE638 : Aside0 (w.heap.size ≤ gb638) := gwx hg; replace HB := Aside0.mk (below_step blx hb); clear hb hbox hg; obtain ⟨hcz19_0, hcz19_1, hfz19_0, hfz19_1⟩ := c2_ BK638; have p639 : 0 ≤ ((ji8) : Int) := odx; have q639 : (ji8) < (l0.length : Int) := odx; obtain ⟨ad639, e639, hx639_0, hx639_1⟩ := at_T72 HR0.out (ji8) p639 q639; obtain rfl : ad637 = ad639 := (by injection e639); have hn639_0 : ad637.block ≠ gb638 := Nat.ne_of_lt (Nat.lt_of_lt_of_le (by have := World.block_lt_of_cell? _ _ hx639_0; first | rwa [add_block] at this | exact this) GW638.out); have hn639_1 : ad637.block ≠ gb638 := Nat.ne_of_lt (Nat.lt_of_lt_of_le (by have := World.block_lt_of_cell? _ _ hx639_0; first | rwa [add_block] at this | exact this) GW638.out); replace hx639_0 := (HB.out.cell (World.block_lt_of_cell? w _ hx639_0)).trans hx639_0; replace hx639_1 := (HB.out.cell (World.block_lt_of_cell? w _ hx639_1)).trans hx639_1; replace hx639_0 := (cell_far (p := ⟨gb638, 0, none⟩) (by first | (rw [add_block]; exact hn639_0) | (show (Addr.add _ _).block ≠ _; rw [add_block]; exact hn639_0) | exact hn639_0) (.int .i64 ((rd_T72 l0 x7_1).f0))).trans hx639_0; replace hx639_1 := (cell_far (p := ⟨gb638, 0, none⟩) (by first | (rw [add_block]; exact hn639_0) | (show (Addr.add _ _).block ≠ _; rw [add_block]; exact hn639_0) | exact hn639_0) (.int .i64 ((rd_T72 l0 x7_1).f0))).trans hx639_1; replace hx639_0 := (cell_far (p := ⟨gb638, 1, none⟩) (by first | (rw [add_block]; exact hn639_1) | (show (Addr.add _ _).block ≠ _; rw [add_block]; exact hn639_1) | exact hn639_1) (.int .i64 ((rd_T72 l0 x7_1).f1))).trans hx639_0; replace hx639_1 := (cell_far (p := ⟨gb638, 1, none⟩) (by first | (rw [add_block]; exact hn639_1) | (show (Addr.add _ _).block ≠ _; rw [add_block]; exact hn639_1) | exact hn639_1) (.int .i64 ((rd_T72 l0 x7_1).f1))).trans hx639_1; (try have hy639_0 := fun (n_ : Nat) => (show ((((w18.drewN n_).setCell ⟨gb638, 0, none⟩ (.int .i64 ((rd_T72 l0 x7_1).f0))).setCell ⟨gb638, 1, none⟩ (.int .i64 ((rd_T72 l0 x7_1).f1)))).cell? _ = some _ from hx639_0)); (try have hy639_1 := fun (n_ : Nat) => (show ((((w18.drewN n_).setCell ⟨gb638, 0, none⟩ (.int .i64 ((rd_T72 l0 x7_1).f0))).setCell ⟨gb638, 1, none⟩ (.int .i64 ((rd_T72 l0 x7_1).f1)))).cell? _ = some _ from hx639_1)); clear hn639_0; clear hn639_1; replace p639 := eq_true p639; replace q639 := eq_true q639)))
              go_ret
              exact ⟨by first | rfl | (simp [errW_none, errW_some] <;> rfl) | (simp only [← hji8]; first | rfl | (simp [errW_none, errW_some] <;> rfl)) | (simp [*, errW_none, errW_some] <;> rfl), blx⟩
             ·rw [if_neg c17] at H
              have c17b0 : decide (((rd_T72 l0 x7_1).f1) < 0) = false := decide_eq_false c17
              clear c17
              by_cases c20 : ((rd_T72 l0 x7_1).f1) > 1000000
              ·rw [if_pos c20] at H
               have c20b0 : decide (1000000 < ((rd_T72 l0 x7_1).f1)) = true := decide_eq_true c20
               clear c20
               obtain rfl := Option.some.inj H
               have p637 : 0 ≤ (x7_1 : Int) := odx
               have q637 : x7_1 < (l0.length : Int) := odx
               obtain ⟨ad637, e637, hx637_0, hx637_1⟩ := at_T72 HR0.out x7_1 p637 q637
               cases e637
               replace hx637_0 := (HB.out.cell (World.block_lt_of_cell? w _ hx637_0)).trans hx637_0
               replace hx637_1 := (HB.out.cell (World.block_lt_of_cell? w _ hx637_1)).trans hx637_1
               replace p637 := eq_true p637
               replace q637 := eq_true q637
               go_wp2_with (first | ((with_reducible refine gate_dst (N := 4) rfl ?_); (try (refine gate_guard (by rfl) ?_; dsimp only)); refine bxe (N := 4) (cs := #[.int .i64 0, .int .i64 0]) (t := 72) ?_; intro gb638 hg w21 hbox hb; have BK638 := Aside0.mk (hbox); have GW638 : Aside0 (w.heap.size ≤ gb638) := gwx hg; have GE638 : Aside0 (w.heap.size ≤ gb638) := gwx hg; replace HB := Aside0.mk (below_step blx hb); clear hb hbox hg; obtain ⟨hcz22_0, hcz22_1, hfz22_0, hfz22_1⟩ := c2_ BK638; have p639 : 0 ≤ ((ji8) : Int) := odx; have q639 : (ji8) < (l0.length : Int) := odx; obtain ⟨ad639, e639, hx639_0, hx639_1⟩ := at_T72 HR0.out (ji8) p639 q639; obtain rfl : ad637 = ad639 := (by injection e639); have hn639_0 : ad637.block ≠ gb638 := Nat.ne_of_lt (Nat.lt_of_lt_of_le (by have := World.block_lt_of_cell? _ _ hx639_0; first | rwa [add_block] at this | exact this) GW638.out); have hn639_1 : ad637.block ≠ gb638 := Nat.ne_of_lt (Nat.lt_of_lt_of_le (by have := World.block_lt_of_cell? _ _ hx639_0; first | rwa [add_block] at this | exact this) GW638.out); replace hx639_0 := (HB.out.cell (World.block_lt_of_cell? w _ hx639_0)).trans hx639_0; replace hx639_1 := (HB.out.cell (World.block_lt_of_cell? w _ hx639_1)).trans hx639_1; replace hx639_0 := (cell_far (p := ⟨gb638, 0, none⟩) (by first | (rw [add_block]; exact hn639_0) | (show (Addr.add _ _).block ≠ _; rw [add_block]; exact hn639_0) | exact hn639_0) (.int .i64 ((rd_T72 l0 x7_1).f0))).trans hx639_0; replace hx639_1 := (cell_far (p := ⟨gb638, 0, none⟩) (by first | (rw [add_block]; exact hn639_0) | (show (Addr.add _ _).block ≠ _; rw [add_block]; exact hn639_0) | exact hn639_0) (.int .i64 ((rd_T72 l0 x7_1).f0))).trans hx639_1; replace hx639_0 := (cell_far (p := ⟨gb638, 1, none⟩) (by first | (rw [add_block]; exact hn639_1) | (show (Addr.add _ _).block ≠ _; rw [add_block]; exact hn639_1) | exact hn639_1) (.int .i64 ((rd_T72 l0 x7_1).f1))).trans hx639_0; replace hx639_1 := (cell_far (p := ⟨gb638, 1, none⟩) (by first | (rw [add_block]; exact hn639_1) | (show (Addr.add _ _).block ≠ _; rw [add_block]; exact hn639_1) | exact hn639_1) (.int .i64 ((rd_T72 l0 x7_1).f1))).trans hx639_1; (try have hy639_0 := fun (n_ : Nat) => (show ((((w21.drewN n_).setCell ⟨gb638, 0, none⟩ (.int .i64 ((rd_T72 l0 x7_1).f0))).setCell ⟨gb638, 1, none⟩ (.int .i64 ((rd_T72 l0 x7_1).f1)))).cell? _ = some _ from hx639_0)); (try have hy639_1 := fun (n_ : Nat) => (show ((((w21.drewN n_).setCell ⟨gb638, 0, none⟩ (.int .i64 ((rd_T72 l0 x7_1).f0))).setCell ⟨gb638, 1, none⟩ (.int .i64 ((rd_T72 l0 x7_1).f1)))).cell? _ = some _ from hx639_1)); clear hn639_0; clear hn639_1; replace p639 := eq_true p639; replace q639 := eq_true q639))
               repeat (go_quiet (first | ((with_reducible refine gate_dst (N := 4) rfl ?_); (try (refine gate_guard (by rfl) ?_; dsimp only)); refine bxe (N := 4) (cs := #[.int .i64 0, .int .i64 0]) (t := 72) ?_; intro gb638 hg w21 hbox hb; have BK638 := Aside0.mk (hbox); have GW638 : Aside0 (w.heap.size ≤ gb638) := gwx hg; have GE638 : Aside0 (w.heap.size ≤ gb638) := gwx hg; replace HB := Aside0.mk (below_step blx hb); clear hb hbox hg; obtain ⟨hcz22_0, hcz22_1, hfz22_0, hfz22_1⟩ := c2_ BK638; have p639 : 0 ≤ ((ji8) : Int) := odx; have q639 : (ji8) < (l0.length : Int) := odx; obtain ⟨ad639, e639, hx639_0, hx639_1⟩ := at_T72 HR0.out (ji8) p639 q639; obtain rfl : ad637 = ad639 := (by injection e639); have hn639_0 : ad637.block ≠ gb638 := Nat.ne_of_lt (Nat.lt_of_lt_of_le (by have := World.block_lt_of_cell? _ _ hx639_0; first | rwa [add_block] at this | exact this) GW638.out); have hn639_1 : ad637.block ≠ gb638 := Nat.ne_of_lt (Nat.lt_of_lt_of_le (by have := World.block_lt_of_cell? _ _ hx639_0; first | rwa [add_block] at this | exact this) GW638.out); replace hx639_0 := (HB.out.cell (World.block_lt_of_cell? w _ hx639_0)).trans hx639_0; replace hx639_1 := (HB.out.cell (World.block_lt_of_cell? w _ hx639_1)).trans hx639_1; replace hx639_0 := (cell_far (p := ⟨gb638, 0, none⟩) (by first | (rw [add_block]; exact hn639_0) | (show (Addr.add _ _).block ≠ _; rw [add_block]; exact hn639_0) | exact hn639_0) (.int .i64 ((rd_T72 l0 x7_1).f0))).trans hx639_0; replace hx639_1 := (cell_far (p := ⟨gb638, 0, none⟩) (by first | (rw [add_block]; exact hn639_0) | (show (Addr.add _ _).block ≠ _; rw [add_block]; exact hn639_0) | exact hn639_0) (.int .i64 ((rd_T72 l0 x7_1).f0))).trans hx639_1; replace hx639_0 := (cell_far (p := ⟨gb638, 1, none⟩) (by first | (rw [add_block]; exact hn639_1) | (show (Addr.add _ _).block ≠ _; rw [add_block]; exact hn639_1) | exact hn639_1) (.int .i64 ((rd_T72 l0 x7_1).f1))).trans hx639_0; replace hx639_1 := (cell_far (p := ⟨gb638, 1, none⟩) (by first | (rw [add_block]; exact hn639_1) | (show (Addr.add _ _).block ≠ _; rw [add_block]; exact hn639_1) | exact hn639_1) (.int .i64 ((rd_T72 l0 x7_1).f1))).trans hx639_1; (try have hy639_0 := fun (n_ : Nat) => (show ((((w21.drewN n_).setCell ⟨gb638, 0, none⟩ (.int .i64 ((rd_T72 l0 x7_1).f0))).setCell ⟨gb638, 1, none⟩ (.int .i64 ((rd_T72 l0 x7_1).f1)))).cell? _ = some _ from hx639_0)); (try have hy639_1 := fun (n_ : Nat) => (show ((((w21.drewN n_).setCell ⟨gb638, 0, none⟩ (.int .i64 ((rd_T72 l0 x7_1).f0))).setCell ⟨gb638, 1, none⟩ (.int .i64 ((rd_T72 l0 x7_1).f1)))).cell? _ = some _ from hx639_1)); clear hn639_0; clear hn639_1; replace p639 := eq_true p639; replace q639 := eq_true q639)); try go_wp2_with (first | ((with_reducible refine gate_dst (N := 4) rfl ?_); (try (refine gate_guard (by rfl) ?_; dsimp only)); refine bxe (N := 4) (cs := #[.int .i64 0, .int .i64 0]) (t := 72) ?_; intro gb638 hg w21 hbox hb; have BK638 := Aside0.mk (hbox); have GW638 : Aside0 (w.heap.size ≤ gb638) := gwx hg; have GE638 : Aside0 (w.heap.size ≤ gb638) := gwx hg; replace HB := Aside0.mk (below_step blx hb); clear hb hbox hg; obtain ⟨hcz22_0, hcz22_1, hfz22_0, hfz22_1⟩ := c2_ BK638; have p639 : 0 ≤ ((ji8) : Int) := odx; have q639 : (ji8) < (l0.length : Int) := odx; obtain ⟨ad639, e639, hx639_0, hx639_1⟩ := at_T72 HR0.out (ji8) p639 q639; obtain rfl : ad637 = ad639 := (by injection e639); have hn639_0 : ad637.block ≠ gb638 := Nat.ne_of_lt (Nat.lt_of_lt_of_le (by have := World.block_lt_of_cell? _ _ hx639_0; first | rwa [add_block] at this | exact this) GW638.out); have hn639_1 : ad637.block ≠ gb638 := Nat.ne_of_lt (Nat.lt_of_lt_of_le (by have := World.block_lt_of_cell? _ _ hx639_0; first | rwa [add_block] at this | exact this) GW638.out); replace hx639_0 := (HB.out.cell (World.block_lt_of_cell? w _ hx639_0)).trans hx639_0; replace hx639_1 := (HB.out.cell (World.block_lt_of_cell? w _ hx639_1)).trans hx639_1; replace hx639_0 := (cell_far (p := ⟨gb638, 0, none⟩) (by first | (rw [add_block]; exact hn639_0) | (show (Addr.add _ _).block ≠ _; rw [add_block]; exact hn639_0) | exact hn639_0) (.int .i64 ((rd_T72 l0 x7_1).f0))).trans hx639_0; replace hx639_1 := (cell_far (p := ⟨gb638, 0, none⟩) (by first | (rw [add_block]; exact hn639_0) | (show (Addr.add _ _).block ≠ _; rw [add_block]; exact hn639_0) | exact hn639_0) (.int .i64 ((rd_T72 l0 x7_1).f0))).trans hx639_1; replace hx639_0 := (cell_far (p := ⟨gb638, 1, none⟩) (by first | (rw [add_block]; exact hn639_1) | (show (Addr.add _ _).block ≠ _; rw [add_block]; exact hn639_1) | exact hn639_1) (.int .i64 ((rd_T72 l0 x7_1).f1))).trans hx639_0; replace hx639_1 := (cell_far (p := ⟨gb638, 1, none⟩) (by first | (rw [add_block]; exact hn639_1) | (show (Addr.add _ _).block ≠ _; rw [add_block]; exact hn639_1) | exact hn639_1) (.int .i64 ((rd_T72 l0 x7_1).f1))).trans hx639_1; (try have hy639_0 := fun (n_ : Nat) => (show ((((w21.drewN n_).setCell ⟨gb638, 0, none⟩ (.int .i64 ((rd_T72 l0 x7_1).f0))).setCell ⟨gb638, 1, none⟩ (.int .i64 ((rd_T72 l0 x7_1).f1)))).cell? _ = some _ from hx639_0)); (try have hy639_1 := fun (n_ : Nat) => (show ((((w21.drewN n_).setCell ⟨gb638, 0, none⟩ (.int .i64 ((rd_T72 l0 x7_1).f0))).setCell ⟨gb638, 1, none⟩ (.int .i64 ((rd_T72 l0 x7_1).f1)))).cell? _ = some _ from hx639_1)); clear hn639_0; clear hn639_1; replace p639 := eq_true p639; replace q639 := eq_true q639)))
               go_ret
               exact ⟨by first | rfl | (simp [errW_none, errW_some] <;> rfl) | (simp only [← hji8]; first | rfl | (simp [errW_none, errW_some] <;> rfl)) | (simp [*, errW_none, errW_some] <;> rfl), blx⟩
              ·rw [if_neg c20] at H
               have c20b0 : decide (1000000 < ((rd_T72 l0 x7_1).f1)) = false := decide_eq_false c20
               clear c20
               have H' := Aside0.mk H
               clear H
               have p637 : 0 ≤ (x7_1 : Int) := odx
               have q637 : x7_1 < (l0.length : Int) := odx
               obtain ⟨ad637, e637, hx637_0, hx637_1⟩ := at_T72 HR0.out x7_1 p637 q637
               cases e637
               replace hx637_0 := (HB.out.cell (World.block_lt_of_cell? w _ hx637_0)).trans hx637_0
               replace hx637_1 := (HB.out.cell (World.block_lt_of_cell? w _ hx637_1)).trans hx637_1
               replace p637 := eq_true p637
               replace q637 := eq_true q637
               go_wp2_with (first | ((with_reducible refine gate_dst (N := 4) rfl ?_); (try (refine gate_guard (by rfl) ?_; dsimp only)); refine bxe (N := 4) (cs := #[.int .i64 0, .int .i64 0]) (t := 72) ?_; intro gb638 hg w23 hbox hb; have BK638 := Aside0.mk (hbox); have GW638 : Aside0 (w.heap.size ≤ gb638) := gwx hg; have GE638 : Aside0 (w.heap.size ≤ gb638) := gwx hg; replace HB := Aside0.mk (below_step blx hb); clear hb hbox hg; obtain ⟨hcz24_0, hcz24_1, hfz24_0, hfz24_1⟩ := c2_ BK638; have p639 : 0 ≤ ((ji8) : Int) := odx; have q639 : (ji8) < (l0.length : Int) := odx; obtain ⟨ad639, e639, hx639_0, hx639_1⟩ := at_T72 HR0.out (ji8) p639 q639; obtain rfl : ad637 = ad639 := (by injection e639); have hn639_0 : ad637.block ≠ gb638 := Nat.ne_of_lt (Nat.lt_of_lt_of_le (by have := World.block_lt_of_cell? _ _ hx639_0; first | rwa [add_block] at this | exact this) GW638.out); have hn639_1 : ad637.block ≠ gb638 := Nat.ne_of_lt (Nat.lt_of_lt_of_le (by have := World.block_lt_of_cell? _ _ hx639_0; first | rwa [add_block] at this | exact this) GW638.out); replace hx639_0 := (HB.out.cell (World.block_lt_of_cell? w _ hx639_0)).trans hx639_0; replace hx639_1 := (HB.out.cell (World.block_lt_of_cell? w _ hx639_1)).trans hx639_1; replace hx639_0 := (cell_far (p := ⟨gb638, 0, none⟩) (by first | (rw [add_block]; exact hn639_0) | (show (Addr.add _ _).block ≠ _; rw [add_block]; exact hn639_0) | exact hn639_0) (.int .i64 ((rd_T72 l0 x7_1).f0))).trans hx639_0; replace hx639_1 := (cell_far (p := ⟨gb638, 0, none⟩) (by first | (rw [add_block]; exact hn639_0) | (show (Addr.add _ _).block ≠ _; rw [add_block]; exact hn639_0) | exact hn639_0) (.int .i64 ((rd_T72 l0 x7_1).f0))).trans hx639_1; replace hx639_0 := (cell_far (p := ⟨gb638, 1, none⟩) (by first | (rw [add_block]; exact hn639_1) | (show (Addr.add _ _).block ≠ _; rw [add_block]; exact hn639_1) | exact hn639_1) (.int .i64 ((rd_T72 l0 x7_1).f1))).trans hx639_0; replace hx639_1 := (cell_far (p := ⟨gb638, 1, none⟩) (by first | (rw [add_block]; exact hn639_1) | (show (Addr.add _ _).block ≠ _; rw [add_block]; exact hn639_1) | exact hn639_1) (.int .i64 ((rd_T72 l0 x7_1).f1))).trans hx639_1; (try have hy639_0 := fun (n_ : Nat) => (show ((((w23.drewN n_).setCell ⟨gb638, 0, none⟩ (.int .i64 ((rd_T72 l0 x7_1).f0))).setCell ⟨gb638, 1, none⟩ (.int .i64 ((rd_T72 l0 x7_1).f1)))).cell? _ = some _ from hx639_0)); (try have hy639_1 := fun (n_ : Nat) => (show ((((w23.drewN n_).setCell ⟨gb638, 0, none⟩ (.int .i64 ((rd_T72 l0 x7_1).f0))).setCell ⟨gb638, 1, none⟩ (.int .i64 ((rd_T72 l0 x7_1).f1)))).cell? _ = some _ from hx639_1)); clear hn639_0; clear hn639_1; replace p639 := eq_true p639; replace q639 := eq_true q639))
               repeat (go_quiet (first | ((with_reducible refine gate_dst (N := 4) rfl ?_); (try (refine gate_guard (by rfl) ?_; dsimp only)); refine bxe (N := 4) (cs := #[.int .i64 0, .int .i64 0]) (t := 72) ?_; intro gb638 hg w23 hbox hb; have BK638 := Aside0.mk (hbox); have GW638 : Aside0 (w.heap.size ≤ gb638) := gwx hg; have GE638 : Aside0 (w.heap.size ≤ gb638) := gwx hg; replace HB := Aside0.mk (below_step blx hb); clear hb hbox hg; obtain ⟨hcz24_0, hcz24_1, hfz24_0, hfz24_1⟩ := c2_ BK638; have p639 : 0 ≤ ((ji8) : Int) := odx; have q639 : (ji8) < (l0.length : Int) := odx; obtain ⟨ad639, e639, hx639_0, hx639_1⟩ := at_T72 HR0.out (ji8) p639 q639; obtain rfl : ad637 = ad639 := (by injection e639); have hn639_0 : ad637.block ≠ gb638 := Nat.ne_of_lt (Nat.lt_of_lt_of_le (by have := World.block_lt_of_cell? _ _ hx639_0; first | rwa [add_block] at this | exact this) GW638.out); have hn639_1 : ad637.block ≠ gb638 := Nat.ne_of_lt (Nat.lt_of_lt_of_le (by have := World.block_lt_of_cell? _ _ hx639_0; first | rwa [add_block] at this | exact this) GW638.out); replace hx639_0 := (HB.out.cell (World.block_lt_of_cell? w _ hx639_0)).trans hx639_0; replace hx639_1 := (HB.out.cell (World.block_lt_of_cell? w _ hx639_1)).trans hx639_1; replace hx639_0 := (cell_far (p := ⟨gb638, 0, none⟩) (by first | (rw [add_block]; exact hn639_0) | (show (Addr.add _ _).block ≠ _; rw [add_block]; exact hn639_0) | exact hn639_0) (.int .i64 ((rd_T72 l0 x7_1).f0))).trans hx639_0; replace hx639_1 := (cell_far (p := ⟨gb638, 0, none⟩) (by first | (rw [add_block]; exact hn639_0) | (show (Addr.add _ _).block ≠ _; rw [add_block]; exact hn639_0) | exact hn639_0) (.int .i64 ((rd_T72 l0 x7_1).f0))).trans hx639_1; replace hx639_0 := (cell_far (p := ⟨gb638, 1, none⟩) (by first | (rw [add_block]; exact hn639_1) | (show (Addr.add _ _).block ≠ _; rw [add_block]; exact hn639_1) | exact hn639_1) (.int .i64 ((rd_T72 l0 x7_1).f1))).trans hx639_0; replace hx639_1 := (cell_far (p := ⟨gb638, 1, none⟩) (by first | (rw [add_block]; exact hn639_1) | (show (Addr.add _ _).block ≠ _; rw [add_block]; exact hn639_1) | exact hn639_1) (.int .i64 ((rd_T72 l0 x7_1).f1))).trans hx639_1; (try have hy639_0 := fun (n_ : Nat) => (show ((((w23.drewN n_).setCell ⟨gb638, 0, none⟩ (.int .i64 ((rd_T72 l0 x7_1).f0))).setCell ⟨gb638, 1, none⟩ (.int .i64 ((rd_T72 l0 x7_1).f1)))).cell? _ = some _ from hx639_0)); (try have hy639_1 := fun (n_ : Nat) => (show ((((w23.drewN n_).setCell ⟨gb638, 0, none⟩ (.int .i64 ((rd_T72 l0 x7_1).f0))).setCell ⟨gb638, 1, none⟩ (.int .i64 ((rd_T72 l0 x7_1).f1)))).cell? _ = some _ from hx639_1)); clear hn639_0; clear hn639_1; replace p639 := eq_true p639; replace q639 := eq_true q639)); try go_wp2_with (first | ((with_reducible refine gate_dst (N := 4) rfl ?_); (try (refine gate_guard (by rfl) ?_; dsimp only)); refine bxe (N := 4) (cs := #[.int .i64 0, .int .i64 0]) (t := 72) ?_; intro gb638 hg w23 hbox hb; have BK638 := Aside0.mk (hbox); have GW638 : Aside0 (w.heap.size ≤ gb638) := gwx hg; have GE638 : Aside0 (w.heap.size ≤ gb638) := gwx hg; replace HB := Aside0.mk (below_step blx hb); clear hb hbox hg; obtain ⟨hcz24_0, hcz24_1, hfz24_0, hfz24_1⟩ := c2_ BK638; have p639 : 0 ≤ ((ji8) : Int) := odx; have q639 : (ji8) < (l0.length : Int) := odx; obtain ⟨ad639, e639, hx639_0, hx639_1⟩ := at_T72 HR0.out (ji8) p639 q639; obtain rfl : ad637 = ad639 := (by injection e639); have hn639_0 : ad637.block ≠ gb638 := Nat.ne_of_lt (Nat.lt_of_lt_of_le (by have := World.block_lt_of_cell? _ _ hx639_0; first | rwa [add_block] at this | exact this) GW638.out); have hn639_1 : ad637.block ≠ gb638 := Nat.ne_of_lt (Nat.lt_of_lt_of_le (by have := World.block_lt_of_cell? _ _ hx639_0; first | rwa [add_block] at this | exact this) GW638.out); replace hx639_0 := (HB.out.cell (World.block_lt_of_cell? w _ hx639_0)).trans hx639_0; replace hx639_1 := (HB.out.cell (World.block_lt_of_cell? w _ hx639_1)).trans hx639_1; replace hx639_0 := (cell_far (p := ⟨gb638, 0, none⟩) (by first | (rw [add_block]; exact hn639_0) | (show (Addr.add _ _).block ≠ _; rw [add_block]; exact hn639_0) | exact hn639_0) (.int .i64 ((rd_T72 l0 x7_1).f0))).trans hx639_0; replace hx639_1 := (cell_far (p := ⟨gb638, 0, none⟩) (by first | (rw [add_block]; exact hn639_0) | (show (Addr.add _ _).block ≠ _; rw [add_block]; exact hn639_0) | exact hn639_0) (.int .i64 ((rd_T72 l0 x7_1).f0))).trans hx639_1; replace hx639_0 := (cell_far (p := ⟨gb638, 1, none⟩) (by first | (rw [add_block]; exact hn639_1) | (show (Addr.add _ _).block ≠ _; rw [add_block]; exact hn639_1) | exact hn639_1) (.int .i64 ((rd_T72 l0 x7_1).f1))).trans hx639_0; replace hx639_1 := (cell_far (p := ⟨gb638, 1, none⟩) (by first | (rw [add_block]; exact hn639_1) | (show (Addr.add _ _).block ≠ _; rw [add_block]; exact hn639_1) | exact hn639_1) (.int .i64 ((rd_T72 l0 x7_1).f1))).trans hx639_1; (try have hy639_0 := fun (n_ : Nat) => (show ((((w23.drewN n_).setCell ⟨gb638, 0, none⟩ (.int .i64 ((rd_T72 l0 x7_1).f0))).setCell ⟨gb638, 1, none⟩ (.int .i64 ((rd_T72 l0 x7_1).f1)))).cell? _ = some _ from hx639_0)); (try have hy639_1 := fun (n_ : Nat) => (show ((((w23.drewN n_).setCell ⟨gb638, 0, none⟩ (.int .i64 ((rd_T72 l0 x7_1).f0))).setCell ⟨gb638, 1, none⟩ (.int .i64 ((rd_T72 l0 x7_1).f1)))).cell? _ = some _ from hx639_1)); clear hn639_0; clear hn639_1; replace p639 := eq_true p639; replace q639 := eq_true q639)))
               go_roundg k1
               case measure => have := HK1.out; omega
               case rel => exact ⟨(wrap64 (x7_1 + 1)), (by first | rfl | (simp; done) | (simp [*]; done)), H', ⟨by have := HK1.out; omega⟩, ⟨blx⟩⟩
          ·rw [if_neg c10] at H
           exact absurd H (by simp)
         ·rw [if_neg c9] at H
          exact absurd H (by simp)
        ·rw [if_neg c7] at H
         have c7b0 : decide (0 < x7_1) = false := decide_eq_false c7
         clear c7
         by_cases c25 : ((rd_T72 l0 x7_1).f0) > 9999999999999
         ·rw [if_pos c25] at H
          have c25b0 : decide (9999999999999 < ((rd_T72 l0 x7_1).f0)) = true := decide_eq_true c25
          clear c25
          obtain rfl := Option.some.inj H
          have p637 : 0 ≤ (x7_1 : Int) := odx
          have q637 : x7_1 < (l0.length : Int) := odx
          obtain ⟨ad637, e637, hx637_0, hx637_1⟩ := at_T72 HR0.out x7_1 p637 q637
          cases e637
          replace hx637_0 := (HB.out.cell (World.block_lt_of_cell? w _ hx637_0)).trans hx637_0
          replace hx637_1 := (HB.out.cell (World.block_lt_of_cell? w _ hx637_1)).trans hx637_1
          replace p637 := eq_true p637
          replace q637 := eq_true q637
          go_wp2_with (first | ((with_reducible refine gate_dst (N := 4) rfl ?_); (try (refine gate_guard (by rfl) ?_; dsimp only)); refine bxe (N := 4) (cs := #[.int .i64 0, .int .i64 0]) (t := 72) ?_; intro gb638 hg w26 hbox hb; have BK638 := Aside0.mk (hbox); have GW638 : Aside0 (w.heap.size ≤ gb638) := gwx hg; have GE638 : Aside0 (w.heap.size ≤ gb638) := gwx hg; replace HB := Aside0.mk (below_step blx hb); clear hb hbox hg; obtain ⟨hcz27_0, hcz27_1, hfz27_0, hfz27_1⟩ := c2_ BK638))
          repeat (go_quiet (first | ((with_reducible refine gate_dst (N := 4) rfl ?_); (try (refine gate_guard (by rfl) ?_; dsimp only)); refine bxe (N := 4) (cs := #[.int .i64 0, .int .i64 0]) (t := 72) ?_; intro gb638 hg w26 hbox hb; have BK638 := Aside0.mk (hbox); have GW638 : Aside0 (w.heap.size ≤ gb638) := gwx hg; have GE638 : Aside0 (w.heap.size ≤ gb638) := gwx hg; replace HB := Aside0.mk (below_step blx hb); clear hb hbox hg; obtain ⟨hcz27_0, hcz27_1, hfz27_0, hfz27_1⟩ := c2_ BK638)); try go_wp2_with (first | ((with_reducible refine gate_dst (N := 4) rfl ?_); (try (refine gate_guard (by rfl) ?_; dsimp only)); refine bxe (N := 4) (cs := #[.int .i64 0, .int .i64 0]) (t := 72) ?_; intro gb638 hg w26 hbox hb; have BK638 := Aside0.mk (hbox); have GW638 : Aside0 (w.heap.size ≤ gb638) := gwx hg; have GE638 : Aside0 (w.heap.size ≤ gb638) := gwx hg; replace HB := Aside0.mk (below_step blx hb); clear hb hbox hg; obtain ⟨hcz27_0, hcz27_1, hfz27_0, hfz27_1⟩ := c2_ BK638)))
          go_ret
          exact ⟨by first | rfl | (simp [errW_none, errW_some] <;> rfl) | (simp [*, errW_none, errW_some] <;> rfl), blx⟩
         ·rw [if_neg c25] at H
          have c25b0 : decide (9999999999999 < ((rd_T72 l0 x7_1).f0)) = false := decide_eq_false c25
          clear c25
          by_cases c28 : ((rd_T72 l0 x7_1).f1) < 0
          ·rw [if_pos c28] at H
           have c28b0 : decide (((rd_T72 l0 x7_1).f1) < 0) = true := decide_eq_true c28
           clear c28
           obtain rfl := Option.some.inj H
           have p637 : 0 ≤ (x7_1 : Int) := odx
           have q637 : x7_1 < (l0.length : Int) := odx
           obtain ⟨ad637, e637, hx637_0, hx637_1⟩ := at_T72 HR0.out x7_1 p637 q637
           cases e637
           replace hx637_0 := (HB.out.cell (World.block_lt_of_cell? w _ hx637_0)).trans hx637_0
           replace hx637_1 := (HB.out.cell (World.block_lt_of_cell? w _ hx637_1)).trans hx637_1
           replace p637 := eq_true p637
           replace q637 := eq_true q637
           go_wp2_with (first | ((with_reducible refine gate_dst (N := 4) rfl ?_); (try (refine gate_guard (by rfl) ?_; dsimp only)); refine bxe (N := 4) (cs := #[.int .i64 0, .int .i64 0]) (t := 72) ?_; intro gb638 hg w29 hbox hb; have BK638 := Aside0.mk (hbox); have GW638 : Aside0 (w.heap.size ≤ gb638) := gwx hg; have GE638 : Aside0 (w.heap.size ≤ gb638) := gwx hg; replace HB := Aside0.mk (below_step blx hb); clear hb hbox hg; obtain ⟨hcz30_0, hcz30_1, hfz30_0, hfz30_1⟩ := c2_ BK638))
           repeat (go_quiet (first | ((with_reducible refine gate_dst (N := 4) rfl ?_); (try (refine gate_guard (by rfl) ?_; dsimp only)); refine bxe (N := 4) (cs := #[.int .i64 0, .int .i64 0]) (t := 72) ?_; intro gb638 hg w29 hbox hb; have BK638 := Aside0.mk (hbox); have GW638 : Aside0 (w.heap.size ≤ gb638) := gwx hg; have GE638 : Aside0 (w.heap.size ≤ gb638) := gwx hg; replace HB := Aside0.mk (below_step blx hb); clear hb hbox hg; obtain ⟨hcz30_0, hcz30_1, hfz30_0, hfz30_1⟩ := c2_ BK638)); try go_wp2_with (first | ((with_reducible refine gate_dst (N := 4) rfl ?_); (try (refine gate_guard (by rfl) ?_; dsimp only)); refine bxe (N := 4) (cs := #[.int .i64 0, .int .i64 0]) (t := 72) ?_; intro gb638 hg w29 hbox hb; have BK638 := Aside0.mk (hbox); have GW638 : Aside0 (w.heap.size ≤ gb638) := gwx hg; have GE638 : Aside0 (w.heap.size ≤ gb638) := gwx hg; replace HB := Aside0.mk (below_step blx hb); clear hb hbox hg; obtain ⟨hcz30_0, hcz30_1, hfz30_0, hfz30_1⟩ := c2_ BK638)))
           go_ret
           exact ⟨by first | rfl | (simp [errW_none, errW_some] <;> rfl) | (simp [*, errW_none, errW_some] <;> rfl), blx⟩
          ·rw [if_neg c28] at H
           have c28b0 : decide (((rd_T72 l0 x7_1).f1) < 0) = false := decide_eq_false c28
           clear c28
           by_cases c31 : ((rd_T72 l0 x7_1).f1) > 1000000
           ·rw [if_pos c31] at H
            have c31b0 : decide (1000000 < ((rd_T72 l0 x7_1).f1)) = true := decide_eq_true c31
            clear c31
            obtain rfl := Option.some.inj H
            have p637 : 0 ≤ (x7_1 : Int) := odx
            have q637 : x7_1 < (l0.length : Int) := odx
            obtain ⟨ad637, e637, hx637_0, hx637_1⟩ := at_T72 HR0.out x7_1 p637 q637
            cases e637
            replace hx637_0 := (HB.out.cell (World.block_lt_of_cell? w _ hx637_0)).trans hx637_0
            replace hx637_1 := (HB.out.cell (World.block_lt_of_cell? w _ hx637_1)).trans hx637_1
            replace p637 := eq_true p637
            replace q637 := eq_true q637
            go_wp2_with (first | ((with_reducible refine gate_dst (N := 4) rfl ?_); (try (refine gate_guard (by rfl) ?_; dsimp only)); refine bxe (N := 4) (cs := #[.int .i64 0, .int .i64 0]) (t := 72) ?_; intro gb638 hg w32 hbox hb; have BK638 := Aside0.mk (hbox); have GW638 : Aside0 (w.heap.size ≤ gb638) := gwx hg; have GE638 : Aside0 (w.heap.size ≤ gb638) := gwx hg; replace HB := Aside0.mk (below_step blx hb); clear hb hbox hg; obtain ⟨hcz33_0, hcz33_1, hfz33_0, hfz33_1⟩ := c2_ BK638))
            repeat (go_quiet (first | ((with_reducible refine gate_dst (N := 4) rfl ?_); (try (refine gate_guard (by rfl) ?_; dsimp only)); refine bxe (N := 4) (cs := #[.int .i64 0, .int .i64 0]) (t := 72) ?_; intro gb638 hg w32 hbox hb; have BK638 := Aside0.mk (hbox); have GW638 : Aside0 (w.heap.size ≤ gb638) := gwx hg; have GE638 : Aside0 (w.heap.size ≤ gb638) := gwx hg; replace HB := Aside0.mk (below_step blx hb); clear hb hbox hg; obtain ⟨hcz33_0, hcz33_1, hfz33_0, hfz33_1⟩ := c2_ BK638)); try go_wp2_with (first | ((with_reducible refine gate_dst (N := 4) rfl ?_); (try (refine gate_guard (by rfl) ?_; dsimp only)); refine bxe (N := 4) (cs := #[.int .i64 0, .int .i64 0]) (t := 72) ?_; intro gb638 hg w32 hbox hb; have BK638 := Aside0.mk (hbox); have GW638 : Aside0 (w.heap.size ≤ gb638) := gwx hg; have GE638 : Aside0 (w.heap.size ≤ gb638) := gwx hg; replace HB := Aside0.mk (below_step blx hb); clear hb hbox hg; obtain ⟨hcz33_0, hcz33_1, hfz33_0, hfz33_1⟩ := c2_ BK638)))
            go_ret
            exact ⟨by first | rfl | (simp [errW_none, errW_some] <;> rfl) | (simp [*, errW_none, errW_some] <;> rfl), blx⟩
           ·rw [if_neg c31] at H
            have c31b0 : decide (1000000 < ((rd_T72 l0 x7_1).f1)) = false := decide_eq_false c31
            clear c31
            have H' := Aside0.mk H
            clear H
            have p637 : 0 ≤ (x7_1 : Int) := odx
            have q637 : x7_1 < (l0.length : Int) := odx
            obtain ⟨ad637, e637, hx637_0, hx637_1⟩ := at_T72 HR0.out x7_1 p637 q637
            cases e637
            replace hx637_0 := (HB.out.cell (World.block_lt_of_cell? w _ hx637_0)).trans hx637_0
            replace hx637_1 := (HB.out.cell (World.block_lt_of_cell? w _ hx637_1)).trans hx637_1
            replace p637 := eq_true p637
            replace q637 := eq_true q637
            go_wp2_with (first | ((with_reducible refine gate_dst (N := 4) rfl ?_); (try (refine gate_guard (by rfl) ?_; dsimp only)); refine bxe (N := 4) (cs := #[.int .i64 0, .int .i64 0]) (t := 72) ?_; intro gb638 hg w34 hbox hb; have BK638 := Aside0.mk (hbox); have GW638 : Aside0 (w.heap.size ≤ gb638) := gwx hg; have GE638 : Aside0 (w.heap.size ≤ gb638) := gwx hg; replace HB := Aside0.mk (below_step blx hb); clear hb hbox hg; obtain ⟨hcz35_0, hcz35_1, hfz35_0, hfz35_1⟩ := c2_ BK638))
            repeat (go_quiet (first | ((with_reducible refine gate_dst (N := 4) rfl ?_); (try (refine gate_guard (by rfl) ?_; dsimp only)); refine bxe (N := 4) (cs := #[.int .i64 0, .int .i64 0]) (t := 72) ?_; intro gb638 hg w34 hbox hb; have BK638 := Aside0.mk (hbox); have GW638 : Aside0 (w.heap.size ≤ gb638) := gwx hg; have GE638 : Aside0 (w.heap.size ≤ gb638) := gwx hg; replace HB := Aside0.mk (below_step blx hb); clear hb hbox hg; obtain ⟨hcz35_0, hcz35_1, hfz35_0, hfz35_1⟩ := c2_ BK638)); try go_wp2_with (first | ((with_reducible refine gate_dst (N := 4) rfl ?_); (try (refine gate_guard (by rfl) ?_; dsimp only)); refine bxe (N := 4) (cs := #[.int .i64 0, .int .i64 0]) (t := 72) ?_; intro gb638 hg w34 hbox hb; have BK638 := Aside0.mk (hbox); have GW638 : Aside0 (w.heap.size ≤ gb638) := gwx hg; have GE638 : Aside0 (w.heap.size ≤ gb638) := gwx hg; replace HB := Aside0.mk (below_step blx hb); clear hb hbox hg; obtain ⟨hcz35_0, hcz35_1, hfz35_0, hfz35_1⟩ := c2_ BK638)))
            go_roundg k1
            case measure => have := HK1.out; omega
            case rel => exact ⟨(wrap64 (x7_1 + 1)), (by first | rfl | (simp; done) | (simp [*]; done)), H', ⟨by have := HK1.out; omega⟩, ⟨blx⟩⟩
       ·rw [if_neg c6] at H
        have c6b0 : (((rd_T72 l0 x7_1).f0) == 0) = false := beq_eq_false_iff_ne.mpr c6
        have c6b1 : (((rd_T72 l0 x7_1).f0) != 0) = true := bne_iff_ne.mpr c6
        obtain rfl := Option.some.inj H
        have p637 : 0 ≤ (x7_1 : Int) := odx
        have q637 : x7_1 < (l0.length : Int) := odx
        obtain ⟨ad637, e637, hx637_0, hx637_1⟩ := at_T72 HR0.out x7_1 p637 q637
        cases e637
        replace hx637_0 := (HB.out.cell (World.block_lt_of_cell? w _ hx637_0)).trans hx637_0
        replace hx637_1 := (HB.out.cell (World.block_lt_of_cell? w _ hx637_1)).trans hx637_1
        replace p637 := eq_true p637
        replace q637 := eq_true q637
        go_wp2_with (first | ((with_reducible refine gate_dst (N := 4) rfl ?_); (try (refine gate_guard (by rfl) ?_; dsimp only)); refine bxe (N := 4) (cs := #[.int .i64 0, .int .i64 0]) (t := 72) ?_; intro gb638 hg w36 hbox hb; have BK638 := Aside0.mk (hbox); have GW638 : Aside0 (w.heap.size ≤ gb638) := gwx hg; have GE638 : Aside0 (w.heap.size ≤ gb638) := gwx hg; replace HB := Aside0.mk (below_step blx hb); clear hb hbox hg; obtain ⟨hcz37_0, hcz37_1, hfz37_0, hfz37_1⟩ := c2_ BK638))
        repeat (go_quiet (first | ((with_reducible refine gate_dst (N := 4) rfl ?_); (try (refine gate_guard (by rfl) ?_; dsimp only)); refine bxe (N := 4) (cs := #[.int .i64 0, .int .i64 0]) (t := 72) ?_; intro gb638 hg w36 hbox hb; have BK638 := Aside0.mk (hbox); have GW638 : Aside0 (w.heap.size ≤ gb638) := gwx hg; have GE638 : Aside0 (w.heap.size ≤ gb638) := gwx hg; replace HB := Aside0.mk (below_step blx hb); clear hb hbox hg; obtain ⟨hcz37_0, hcz37_1, hfz37_0, hfz37_1⟩ := c2_ BK638)); try go_wp2_with (first | ((with_reducible refine gate_dst (N := 4) rfl ?_); (try (refine gate_guard (by rfl) ?_; dsimp only)); refine bxe (N := 4) (cs := #[.int .i64 0, .int .i64 0]) (t := 72) ?_; intro gb638 hg w36 hbox hb; have BK638 := Aside0.mk (hbox); have GW638 : Aside0 (w.heap.size ≤ gb638) := gwx hg; have GE638 : Aside0 (w.heap.size ≤ gb638) := gwx hg; replace HB := Aside0.mk (below_step blx hb); clear hb hbox hg; obtain ⟨hcz37_0, hcz37_1, hfz37_0, hfz37_1⟩ := c2_ BK638)))
        go_ret
        exact ⟨by first | rfl | (simp [errW_none, errW_some] <;> rfl) | (simp [*, errW_none, errW_some] <;> rfl), blx⟩
      ·rw [if_neg c5] at H
       have c5b0 : (x7_1 == 0) = false := beq_eq_false_iff_ne.mpr c5
       have c5b1 : (x7_1 != 0) = true := bne_iff_ne.mpr c5
       by_cases c38 : x7_1 > 0
       ·rw [if_pos c38] at H
        have c38b0 : decide (0 < x7_1) = true := decide_eq_true c38
        clear c38
        obtain ⟨ji39, hji39⟩ : ∃ j_ : Int, (wrap64 (x7_1 - 1)) = j_ := ⟨_, rfl⟩
        replace H : (if 0 ≤ (ji39) then (if (ji39) < (l0.length : Int) then (if ((rd_T72 l0 x7_1).f0) ≤ ((rd_T72 l0 (ji39)).f0) then (some false) else (if ((rd_T72 l0 x7_1).f0) > 9999999999999 then (some false) else (if ((rd_T72 l0 x7_1).f1) < 0 then (some false) else (if ((rd_T72 l0 x7_1).f1) > 1000000 then (some false) else (money_table.l0 k1 l0 l0 (l0.length : Int) (wrap64 (x7_1 + 1))))))) else (none)) else (none)) = some r := by first | (rw [hji39] at H; exact H) | (simp only [hji39] at H ⊢; exact H)
        have hji39w : (IntKind.i64.wrap (x7_1 - 1)) = ji39 := (i64_w _).trans hji39
        by_cases c40 : 0 ≤ (ji39)
        ·rw [if_pos c40] at H
         have c40b0 : decide (0 ≤ (ji39)) = true := decide_eq_true c40
         clear c40
         by_cases c41 : (ji39) < (l0.length : Int)
         ·rw [if_pos c41] at H
          have c41b0 : decide ((ji39) < (l0.length : Int)) = true := decide_eq_true c41
          clear c41
          by_cases c42 : ((rd_T72 l0 x7_1).f0) ≤ ((rd_T72 l0 (ji39)).f0)
          ·rw [if_pos c42] at H
           have c42b0 : decide (((rd_T72 l0 x7_1).f0) ≤ ((rd_T72 l0 (ji39)).f0)) = true := decide_eq_true c42
           clear c42
           obtain rfl := Option.some.inj H
           have p637 : 0 ≤ (x7_1 : Int) := odx
           have q637 : x7_1 < (l0.length : Int) := odx
           obtain ⟨ad637, e637, hx637_0, hx637_1⟩ := at_T72 HR0.out x7_1 p637 q637
           cases e637
           replace hx637_0 := (HB.out.cell (World.block_lt_of_cell? w _ hx637_0)).trans hx637_0
           replace hx637_1 := (HB.out.cell (World.block_lt_of_cell? w _ hx637_1)).trans hx637_1
           replace p637 := eq_true p637
           replace q637 := eq_true q637
           go_wp2_with (first | ((with_reducible refine gate_dst (N := 4) rfl ?_); (try (refine gate_guard (by rfl) ?_; dsimp only)); refine bxe (N := 4) (cs := #[.int .i64 0, .int .i64 0]) (t := 72) ?_; intro gb638 hg w43 hbox hb; have BK638 := Aside0.mk (hbox); have GW638 : Aside0 (w.heap.size ≤ gb638) := gwx hg; have GE638 : Aside0 (w.heap.size ≤ gb638) := gwx hg; replace HB := Aside0.mk (below_step blx hb); clear hb hbox hg; obtain ⟨hcz44_0, hcz44_1, hfz44_0, hfz44_1⟩ := c2_ BK638; have p640 : 0 ≤ ((ji39) : Int) := odx; have q640 : (ji39) < (l0.length : Int) := odx; obtain ⟨ad640, e640, hx640_0, hx640_1⟩ := at_T72 HR0.out (ji39) p640 q640; obtain rfl : ad637 = ad640 := (by injection e640); have hn640_0 : ad637.block ≠ gb638 := Nat.ne_of_lt (Nat.lt_of_lt_of_le (by have := World.block_lt_of_cell? _ _ hx640_0; first | rwa [add_block] at this | exact this) GW638.out); have hn640_1 : ad637.block ≠ gb638 := Nat.ne_of_lt (Nat.lt_of_lt_of_le (by have := World.block_lt_of_cell? _ _ hx640_0; first | rwa [add_block] at this | exact this) GW638.out); replace hx640_0 := (HB.out.cell (World.block_lt_of_cell? w _ hx640_0)).trans hx640_0; replace hx640_1 := (HB.out.cell (World.block_lt_of_cell? w _ hx640_1)).trans hx640_1; replace hx640_0 := (cell_far (p := ⟨gb638, 0, none⟩) (by first | (rw [add_block]; exact hn640_0) | (show (Addr.add _ _).block ≠ _; rw [add_block]; exact hn640_0) | exact hn640_0) (.int .i64 ((rd_T72 l0 x7_1).f0))).trans hx640_0; replace hx640_1 := (cell_far (p := ⟨gb638, 0, none⟩) (by first | (rw [add_block]; exact hn640_0) | (show (Addr.add _ _).block ≠ _; rw [add_block]; exact hn640_0) | exact hn640_0) (.int .i64 ((rd_T72 l0 x7_1).f0))).trans hx640_1; replace hx640_0 := (cell_far (p := ⟨gb638, 1, none⟩) (by first | (rw [add_block]; exact hn640_1) | (show (Addr.add _ _).block ≠ _; rw [add_block]; exact hn640_1) | exact hn640_1) (.int .i64 ((rd_T72 l0 x7_1).f1))).trans hx640_0; replace hx640_1 := (cell_far (p := ⟨gb638, 1, none⟩) (by first | (rw [add_block]; exact hn640_1) | (show (Addr.add _ _).block ≠ _; rw [add_block]; exact hn640_1) | exact hn640_1) (.int .i64 ((rd_T72 l0 x7_1).f1))).trans hx640_1; (try have hy640_0 := fun (n_ : Nat) => (show ((((w43.drewN n_).setCell ⟨gb638, 0, none⟩ (.int .i64 ((rd_T72 l0 x7_1).f0))).setCell ⟨gb638, 1, none⟩ (.int .i64 ((rd_T72 l0 x7_1).f1)))).cell? _ = some _ from hx640_0)); (try have hy640_1 := fun (n_ : Nat) => (show ((((w43.drewN n_).setCell ⟨gb638, 0, none⟩ (.int .i64 ((rd_T72 l0 x7_1).f0))).setCell ⟨gb638, 1, none⟩ (.int .i64 ((rd_T72 l0 x7_1).f1)))).cell? _ = some _ from hx640_1)); clear hn640_0; clear hn640_1; replace p640 := eq_true p640; replace q640 := eq_true q640))
           repeat (go_quiet (first | ((with_reducible refine gate_dst (N := 4) rfl ?_); (try (refine gate_guard (by rfl) ?_; dsimp only)); refine bxe (N := 4) (cs := #[.int .i64 0, .int .i64 0]) (t := 72) ?_; intro gb638 hg w43 hbox hb; have BK638 := Aside0.mk (hbox); have GW638 : Aside0 (w.heap.size ≤ gb638) := gwx hg; have GE638 : Aside0 (w.heap.size ≤ gb638) := gwx hg; replace HB := Aside0.mk (below_step blx hb); clear hb hbox hg; obtain ⟨hcz44_0, hcz44_1, hfz44_0, hfz44_1⟩ := c2_ BK638; have p640 : 0 ≤ ((ji39) : Int) := odx; have q640 : (ji39) < (l0.length : Int) := odx; obtain ⟨ad640, e640, hx640_0, hx640_1⟩ := at_T72 HR0.out (ji39) p640 q640; obtain rfl : ad637 = ad640 := (by injection e640); have hn640_0 : ad637.block ≠ gb638 := Nat.ne_of_lt (Nat.lt_of_lt_of_le (by have := World.block_lt_of_cell? _ _ hx640_0; first | rwa [add_block] at this | exact this) GW638.out); have hn640_1 : ad637.block ≠ gb638 := Nat.ne_of_lt (Nat.lt_of_lt_of_le (by have := World.block_lt_of_cell? _ _ hx640_0; first | rwa [add_block] at this | exact this) GW638.out); replace hx640_0 := (HB.out.cell (World.block_lt_of_cell? w _ hx640_0)).trans hx640_0; replace hx640_1 := (HB.out.cell (World.block_lt_of_cell? w _ hx640_1)).trans hx640_1; replace hx640_0 := (cell_far (p := ⟨gb638, 0, none⟩) (by first | (rw [add_block]; exact hn640_0) | (show (Addr.add _ _).block ≠ _; rw [add_block]; exact hn640_0) | exact hn640_0) (.int .i64 ((rd_T72 l0 x7_1).f0))).trans hx640_0; replace hx640_1 := (cell_far (p := ⟨gb638, 0, none⟩) (by first | (rw [add_block]; exact hn640_0) | (show (Addr.add _ _).block ≠ _; rw [add_block]; exact hn640_0) | exact hn640_0) (.int .i64 ((rd_T72 l0 x7_1).f0))).trans hx640_1; replace hx640_0 := (cell_far (p := ⟨gb638, 1, none⟩) (by first | (rw [add_block]; exact hn640_1) | (show (Addr.add _ _).block ≠ _; rw [add_block]; exact hn640_1) | exact hn640_1) (.int .i64 ((rd_T72 l0 x7_1).f1))).trans hx640_0; replace hx640_1 := (cell_far (p := ⟨gb638, 1, none⟩) (by first | (rw [add_block]; exact hn640_1) | (show (Addr.add _ _).block ≠ _; rw [add_block]; exact hn640_1) | exact hn640_1) (.int .i64 ((rd_T72 l0 x7_1).f1))).trans hx640_1; (try have hy640_0 := fun (n_ : Nat) => (show ((((w43.drewN n_).setCell ⟨gb638, 0, none⟩ (.int .i64 ((rd_T72 l0 x7_1).f0))).setCell ⟨gb638, 1, none⟩ (.int .i64 ((rd_T72 l0 x7_1).f1)))).cell? _ = some _ from hx640_0)); (try have hy640_1 := fun (n_ : Nat) => (show ((((w43.drewN n_).setCell ⟨gb638, 0, none⟩ (.int .i64 ((rd_T72 l0 x7_1).f0))).setCell ⟨gb638, 1, none⟩ (.int .i64 ((rd_T72 l0 x7_1).f1)))).cell? _ = some _ from hx640_1)); clear hn640_0; clear hn640_1; replace p640 := eq_true p640; replace q640 := eq_true q640)); try go_wp2_with (first | ((with_reducible refine gate_dst (N := 4) rfl ?_); (try (refine gate_guard (by rfl) ?_; dsimp only)); refine bxe (N := 4) (cs := #[.int .i64 0, .int .i64 0]) (t := 72) ?_; intro gb638 hg w43 hbox hb; have BK638 := Aside0.mk (hbox); have GW638 : Aside0 (w.heap.size ≤ gb638) := gwx hg; have GE638 : Aside0 (w.heap.size ≤ gb638) := gwx hg; replace HB := Aside0.mk (below_step blx hb); clear hb hbox hg; obtain ⟨hcz44_0, hcz44_1, hfz44_0, hfz44_1⟩ := c2_ BK638; have p640 : 0 ≤ ((ji39) : Int) := odx; have q640 : (ji39) < (l0.length : Int) := odx; obtain ⟨ad640, e640, hx640_0, hx640_1⟩ := at_T72 HR0.out (ji39) p640 q640; obtain rfl : ad637 = ad640 := (by injection e640); have hn640_0 : ad637.block ≠ gb638 := Nat.ne_of_lt (Nat.lt_of_lt_of_le (by have := World.block_lt_of_cell? _ _ hx640_0; first | rwa [add_block] at this | exact this) GW638.out); have hn640_1 : ad637.block ≠ gb638 := Nat.ne_of_lt (Nat.lt_of_lt_of_le (by have := World.block_lt_of_cell? _ _ hx640_0; first | rwa [add_block] at this | exact this) GW638.out); replace hx640_0 := (HB.out.cell (World.block_lt_of_cell? w _ hx640_0)).trans hx640_0; replace hx640_1 := (HB.out.cell (World.block_lt_of_cell? w _ hx640_1)).trans hx640_1; replace hx640_0 := (cell_far (p := ⟨gb638, 0, none⟩) (by first | (rw [add_block]; exact hn640_0) | (show (Addr.add _ _).block ≠ _; rw [add_block]; exact hn640_0) | exact hn640_0) (.int .i64 ((rd_T72 l0 x7_1).f0))).trans hx640_0; replace hx640_1 := (cell_far (p := ⟨gb638, 0, none⟩) (by first | (rw [add_block]; exact hn640_0) | (show (Addr.add _ _).block ≠ _; rw [add_block]; exact hn640_0) | exact hn640_0) (.int .i64 ((rd_T72 l0 x7_1).f0))).trans hx640_1; replace hx640_0 := (cell_far (p := ⟨gb638, 1, none⟩) (by first | (rw [add_block]; exact hn640_1) | (show (Addr.add _ _).block ≠ _; rw [add_block]; exact hn640_1) | exact hn640_1) (.int .i64 ((rd_T72 l0 x7_1).f1))).trans hx640_0; replace hx640_1 := (cell_far (p := ⟨gb638, 1, none⟩) (by first | (rw [add_block]; exact hn640_1) | (show (Addr.add _ _).block ≠ _; rw [add_block]; exact hn640_1) | exact hn640_1) (.int .i64 ((rd_T72 l0 x7_1).f1))).trans hx640_1; (try have hy640_0 := fun (n_ : Nat) => (show ((((w43.drewN n_).setCell ⟨gb638, 0, none⟩ (.int .i64 ((rd_T72 l0 x7_1).f0))).setCell ⟨gb638, 1, none⟩ (.int .i64 ((rd_T72 l0 x7_1).f1)))).cell? _ = some _ from hx640_0)); (try have hy640_1 := fun (n_ : Nat) => (show ((((w43.drewN n_).setCell ⟨gb638, 0, none⟩ (.int .i64 ((rd_T72 l0 x7_1).f0))).setCell ⟨gb638, 1, none⟩ (.int .i64 ((rd_T72 l0 x7_1).f1)))).cell? _ = some _ from hx640_1)); clear hn640_0; clear hn640_1; replace p640 := eq_true p640; replace q640 := eq_true q640)))
           go_ret
           exact ⟨by first | rfl | (simp [errW_none, errW_some] <;> rfl) | (simp only [← hji39]; first | rfl | (simp [errW_none, errW_some] <;> rfl)) | (simp [*, errW_none, errW_some] <;> rfl), blx⟩
          ·rw [if_neg c42] at H
           have c42b0 : decide (((rd_T72 l0 x7_1).f0) ≤ ((rd_T72 l0 (ji39)).f0)) = false := decide_eq_false c42
           clear c42
           by_cases c45 : ((rd_T72 l0 x7_1).f0) > 9999999999999
           ·rw [if_pos c45] at H
            have c45b0 : decide (9999999999999 < ((rd_T72 l0 x7_1).f0)) = true := decide_eq_true c45
            clear c45
            obtain rfl := Option.some.inj H
            have p637 : 0 ≤ (x7_1 : Int) := odx
            have q637 : x7_1 < (l0.length : Int) := odx
            obtain ⟨ad637, e637, hx637_0, hx637_1⟩ := at_T72 HR0.out x7_1 p637 q637
            cases e637
            replace hx637_0 := (HB.out.cell (World.block_lt_of_cell? w _ hx637_0)).trans hx637_0
            replace hx637_1 := (HB.out.cell (World.block_lt_of_cell? w _ hx637_1)).trans hx637_1
            replace p637 := eq_true p637
            replace q637 := eq_true q637
            go_wp2_with (first | ((with_reducible refine gate_dst (N := 4) rfl ?_); (try (refine gate_guard (by rfl) ?_; dsimp only)); refine bxe (N := 4) (cs := #[.int .i64 0, .int .i64 0]) (t := 72) ?_; intro gb638 hg w46 hbox hb; have BK638 := Aside0.mk (hbox); have GW638 : Aside0 (w.heap.size ≤ gb638) := gwx hg; have GE638 : Aside0 (w.heap.size ≤ gb638) := gwx hg; replace HB := Aside0.mk (below_step blx hb); clear hb hbox hg; obtain ⟨hcz47_0, hcz47_1, hfz47_0, hfz47_1⟩ := c2_ BK638; have p640 : 0 ≤ ((ji39) : Int) := odx; have q640 : (ji39) < (l0.length : Int) := odx; obtain ⟨ad640, e640, hx640_0, hx640_1⟩ := at_T72 HR0.out (ji39) p640 q640; obtain rfl : ad637 = ad640 := (by injection e640); have hn640_0 : ad637.block ≠ gb638 := Nat.ne_of_lt (Nat.lt_of_lt_of_le (by have := World.block_lt_of_cell? _ _ hx640_0; first | rwa [add_block] at this | exact this) GW638.out); have hn640_1 : ad637.block ≠ gb638 := Nat.ne_of_lt (Nat.lt_of_lt_of_le (by have := World.block_lt_of_cell? _ _ hx640_0; first | rwa [add_block] at this | exact this) GW638.out); replace hx640_0 := (HB.out.cell (World.block_lt_of_cell? w _ hx640_0)).trans hx640_0; replace hx640_1 := (HB.out.cell (World.block_lt_of_cell? w _ hx640_1)).trans hx640_1; replace hx640_0 := (cell_far (p := ⟨gb638, 0, none⟩) (by first | (rw [add_block]; exact hn640_0) | (show (Addr.add _ _).block ≠ _; rw [add_block]; exact hn640_0) | exact hn640_0) (.int .i64 ((rd_T72 l0 x7_1).f0))).trans hx640_0; replace hx640_1 := (cell_far (p := ⟨gb638, 0, none⟩) (by first | (rw [add_block]; exact hn640_0) | (show (Addr.add _ _).block ≠ _; rw [add_block]; exact hn640_0) | exact hn640_0) (.int .i64 ((rd_T72 l0 x7_1).f0))).trans hx640_1; replace hx640_0 := (cell_far (p := ⟨gb638, 1, none⟩) (by first | (rw [add_block]; exact hn640_1) | (show (Addr.add _ _).block ≠ _; rw [add_block]; exact hn640_1) | exact hn640_1) (.int .i64 ((rd_T72 l0 x7_1).f1))).trans hx640_0; replace hx640_1 := (cell_far (p := ⟨gb638, 1, none⟩) (by first | (rw [add_block]; exact hn640_1) | (show (Addr.add _ _).block ≠ _; rw [add_block]; exact hn640_1) | exact hn640_1) (.int .i64 ((rd_T72 l0 x7_1).f1))).trans hx640_1; (try have hy640_0 := fun (n_ : Nat) => (show ((((w46.drewN n_).setCell ⟨gb638, 0, none⟩ (.int .i64 ((rd_T72 l0 x7_1).f0))).setCell ⟨gb638, 1, none⟩ (.int .i64 ((rd_T72 l0 x7_1).f1)))).cell? _ = some _ from hx640_0)); (try have hy640_1 := fun (n_ : Nat) => (show ((((w46.drewN n_).setCell ⟨gb638, 0, none⟩ (.int .i64 ((rd_T72 l0 x7_1).f0))).setCell ⟨gb638, 1, none⟩ (.int .i64 ((rd_T72 l0 x7_1).f1)))).cell? _ = some _ from hx640_1)); clear hn640_0; clear hn640_1; replace p640 := eq_true p640; replace q640 := eq_true q640))
            repeat (go_quiet (first | ((with_reducible refine gate_dst (N := 4) rfl ?_); (try (refine gate_guard (by rfl) ?_; dsimp only)); refine bxe (N := 4) (cs := #[.int .i64 0, .int .i64 0]) (t := 72) ?_; intro gb638 hg w46 hbox hb; have BK638 := Aside0.mk (hbox); have GW638 : Aside0 (w.heap.size ≤ gb638) := gwx hg; have GE638 : Aside0 (w.heap.size ≤ gb638) := gwx hg; replace HB := Aside0.mk (below_step blx hb); clear hb hbox hg; obtain ⟨hcz47_0, hcz47_1, hfz47_0, hfz47_1⟩ := c2_ BK638; have p640 : 0 ≤ ((ji39) : Int) := odx; have q640 : (ji39) < (l0.length : Int) := odx; obtain ⟨ad640, e640, hx640_0, hx640_1⟩ := at_T72 HR0.out (ji39) p640 q640; obtain rfl : ad637 = ad640 := (by injection e640); have hn640_0 : ad637.block ≠ gb638 := Nat.ne_of_lt (Nat.lt_of_lt_of_le (by have := World.block_lt_of_cell? _ _ hx640_0; first | rwa [add_block] at this | exact this) GW638.out); have hn640_1 : ad637.block ≠ gb638 := Nat.ne_of_lt (Nat.lt_of_lt_of_le (by have := World.block_lt_of_cell? _ _ hx640_0; first | rwa [add_block] at this | exact this) GW638.out); replace hx640_0 := (HB.out.cell (World.block_lt_of_cell? w _ hx640_0)).trans hx640_0; replace hx640_1 := (HB.out.cell (World.block_lt_of_cell? w _ hx640_1)).trans hx640_1; replace hx640_0 := (cell_far (p := ⟨gb638, 0, none⟩) (by first | (rw [add_block]; exact hn640_0) | (show (Addr.add _ _).block ≠ _; rw [add_block]; exact hn640_0) | exact hn640_0) (.int .i64 ((rd_T72 l0 x7_1).f0))).trans hx640_0; replace hx640_1 := (cell_far (p := ⟨gb638, 0, none⟩) (by first | (rw [add_block]; exact hn640_0) | (show (Addr.add _ _).block ≠ _; rw [add_block]; exact hn640_0) | exact hn640_0) (.int .i64 ((rd_T72 l0 x7_1).f0))).trans hx640_1; replace hx640_0 := (cell_far (p := ⟨gb638, 1, none⟩) (by first | (rw [add_block]; exact hn640_1) | (show (Addr.add _ _).block ≠ _; rw [add_block]; exact hn640_1) | exact hn640_1) (.int .i64 ((rd_T72 l0 x7_1).f1))).trans hx640_0; replace hx640_1 := (cell_far (p := ⟨gb638, 1, none⟩) (by first | (rw [add_block]; exact hn640_1) | (show (Addr.add _ _).block ≠ _; rw [add_block]; exact hn640_1) | exact hn640_1) (.int .i64 ((rd_T72 l0 x7_1).f1))).trans hx640_1; (try have hy640_0 := fun (n_ : Nat) => (show ((((w46.drewN n_).setCell ⟨gb638, 0, none⟩ (.int .i64 ((rd_T72 l0 x7_1).f0))).setCell ⟨gb638, 1, none⟩ (.int .i64 ((rd_T72 l0 x7_1).f1)))).cell? _ = some _ from hx640_0)); (try have hy640_1 := fun (n_ : Nat) => (show ((((w46.drewN n_).setCell ⟨gb638, 0, none⟩ (.int .i64 ((rd_T72 l0 x7_1).f0))).setCell ⟨gb638, 1, none⟩ (.int .i64 ((rd_T72 l0 x7_1).f1)))).cell? _ = some _ from hx640_1)); clear hn640_0; clear hn640_1; replace p640 := eq_true p640; replace q640 := eq_true q640)); try go_wp2_with (first | ((with_reducible refine gate_dst (N := 4) rfl ?_); (try (refine gate_guard (by rfl) ?_; dsimp only)); refine bxe (N := 4) (cs := #[.int .i64 0, .int .i64 0]) (t := 72) ?_; intro gb638 hg w46 hbox hb; have BK638 := Aside0.mk (hbox); have GW638 : Aside0 (w.heap.size ≤ gb638) := gwx hg; have GE638 : Aside0 (w.heap.size ≤ gb638) := gwx hg; replace HB := Aside0.mk (below_step blx hb); clear hb hbox hg; obtain ⟨hcz47_0, hcz47_1, hfz47_0, hfz47_1⟩ := c2_ BK638; have p640 : 0 ≤ ((ji39) : Int) := odx; have q640 : (ji39) < (l0.length : Int) := odx; obtain ⟨ad640, e640, hx640_0, hx640_1⟩ := at_T72 HR0.out (ji39) p640 q640; obtain rfl : ad637 = ad640 := (by injection e640); have hn640_0 : ad637.block ≠ gb638 := Nat.ne_of_lt (Nat.lt_of_lt_of_le (by have := World.block_lt_of_cell? _ _ hx640_0; first | rwa [add_block] at this | exact this) GW638.out); have hn640_1 : ad637.block ≠ gb638 := Nat.ne_of_lt (Nat.lt_of_lt_of_le (by have := World.block_lt_of_cell? _ _ hx640_0; first | rwa [add_block] at this | exact this) GW638.out); replace hx640_0 := (HB.out.cell (World.block_lt_of_cell? w _ hx640_0)).trans hx640_0; replace hx640_1 := (HB.out.cell (World.block_lt_of_cell? w _ hx640_1)).trans hx640_1; replace hx640_0 := (cell_far (p := ⟨gb638, 0, none⟩) (by first | (rw [add_block]; exact hn640_0) | (show (Addr.add _ _).block ≠ _; rw [add_block]; exact hn640_0) | exact hn640_0) (.int .i64 ((rd_T72 l0 x7_1).f0))).trans hx640_0; replace hx640_1 := (cell_far (p := ⟨gb638, 0, none⟩) (by first | (rw [add_block]; exact hn640_0) | (show (Addr.add _ _).block ≠ _; rw [add_block]; exact hn640_0) | exact hn640_0) (.int .i64 ((rd_T72 l0 x7_1).f0))).trans hx640_1; replace hx640_0 := (cell_far (p := ⟨gb638, 1, none⟩) (by first | (rw [add_block]; exact hn640_1) | (show (Addr.add _ _).block ≠ _; rw [add_block]; exact hn640_1) | exact hn640_1) (.int .i64 ((rd_T72 l0 x7_1).f1))).trans hx640_0; replace hx640_1 := (cell_far (p := ⟨gb638, 1, none⟩) (by first | (rw [add_block]; exact hn640_1) | (show (Addr.add _ _).block ≠ _; rw [add_block]; exact hn640_1) | exact hn640_1) (.int .i64 ((rd_T72 l0 x7_1).f1))).trans hx640_1; (try have hy640_0 := fun (n_ : Nat) => (show ((((w46.drewN n_).setCell ⟨gb638, 0, none⟩ (.int .i64 ((rd_T72 l0 x7_1).f0))).setCell ⟨gb638, 1, none⟩ (.int .i64 ((rd_T72 l0 x7_1).f1)))).cell? _ = some _ from hx640_0)); (try have hy640_1 := fun (n_ : Nat) => (show ((((w46.drewN n_).setCell ⟨gb638, 0, none⟩ (.int .i64 ((rd_T72 l0 x7_1).f0))).setCell ⟨gb638, 1, none⟩ (.int .i64 ((rd_T72 l0 x7_1).f1)))).cell? _ = some _ from hx640_1)); clear hn640_0; clear hn640_1; replace p640 := eq_true p640; replace q640 := eq_true q640)))
            go_ret
            exact ⟨by first | rfl | (simp [errW_none, errW_some] <;> rfl) | (simp only [← hji39]; first | rfl | (simp [errW_none, errW_some] <;> rfl)) | (simp [*, errW_none, errW_some] <;> rfl), blx⟩
           ·rw [if_neg c45] at H
            have c45b0 : decide (9999999999999 < ((rd_T72 l0 x7_1).f0)) = false := decide_eq_false c45
            clear c45
            by_cases c48 : ((rd_T72 l0 x7_1).f1) < 0
            ·rw [if_pos c48] at H
             have c48b0 : decide (((rd_T72 l0 x7_1).f1) < 0) = true := decide_eq_true c48
             clear c48
             obtain rfl := Option.some.inj H
             have p637 : 0 ≤ (x7_1 : Int) := odx
             have q637 : x7_1 < (l0.length : Int) := odx
             obtain ⟨ad637, e637, hx637_0, hx637_1⟩ := at_T72 HR0.out x7_1 p637 q637
             cases e637
             replace hx637_0 := (HB.out.cell (World.block_lt_of_cell? w _ hx637_0)).trans hx637_0
             replace hx637_1 := (HB.out.cell (World.block_lt_of_cell? w _ hx637_1)).trans hx637_1
             replace p637 := eq_true p637
             replace q637 := eq_true q637
             go_wp2_with (first | ((with_reducible refine gate_dst (N := 4) rfl ?_); (try (refine gate_guard (by rfl) ?_; dsimp only)); refine bxe (N := 4) (cs := #[.int .i64 0, .int .i64 0]) (t := 72) ?_; intro gb638 hg w49 hbox hb; have BK638 := Aside0.mk (hbox); have GW638 : Aside0 (w.heap.size ≤ gb638) := gwx hg; have GE638 : Aside0 (w.heap.size ≤ gb638) := gwx hg; replace HB := Aside0.mk (below_step blx hb); clear hb hbox hg; obtain ⟨hcz50_0, hcz50_1, hfz50_0, hfz50_1⟩ := c2_ BK638; have p640 : 0 ≤ ((ji39) : Int) := odx; have q640 : (ji39) < (l0.length : Int) := odx; obtain ⟨ad640, e640, hx640_0, hx640_1⟩ := at_T72 HR0.out (ji39) p640 q640; obtain rfl : ad637 = ad640 := (by injection e640); have hn640_0 : ad637.block ≠ gb638 := Nat.ne_of_lt (Nat.lt_of_lt_of_le (by have := World.block_lt_of_cell? _ _ hx640_0; first | rwa [add_block] at this | exact this) GW638.out); have hn640_1 : ad637.block ≠ gb638 := Nat.ne_of_lt (Nat.lt_of_lt_of_le (by have := World.block_lt_of_cell? _ _ hx640_0; first | rwa [add_block] at this | exact this) GW638.out); replace hx640_0 := (HB.out.cell (World.block_lt_of_cell? w _ hx640_0)).trans hx640_0; replace hx640_1 := (HB.out.cell (World.block_lt_of_cell? w _ hx640_1)).trans hx640_1; replace hx640_0 := (cell_far (p := ⟨gb638, 0, none⟩) (by first | (rw [add_block]; exact hn640_0) | (show (Addr.add _ _).block ≠ _; rw [add_block]; exact hn640_0) | exact hn640_0) (.int .i64 ((rd_T72 l0 x7_1).f0))).trans hx640_0; replace hx640_1 := (cell_far (p := ⟨gb638, 0, none⟩) (by first | (rw [add_block]; exact hn640_0) | (show (Addr.add _ _).block ≠ _; rw [add_block]; exact hn640_0) | exact hn640_0) (.int .i64 ((rd_T72 l0 x7_1).f0))).trans hx640_1; replace hx640_0 := (cell_far (p := ⟨gb638, 1, none⟩) (by first | (rw [add_block]; exact hn640_1) | (show (Addr.add _ _).block ≠ _; rw [add_block]; exact hn640_1) | exact hn640_1) (.int .i64 ((rd_T72 l0 x7_1).f1))).trans hx640_0; replace hx640_1 := (cell_far (p := ⟨gb638, 1, none⟩) (by first | (rw [add_block]; exact hn640_1) | (show (Addr.add _ _).block ≠ _; rw [add_block]; exact hn640_1) | exact hn640_1) (.int .i64 ((rd_T72 l0 x7_1).f1))).trans hx640_1; (try have hy640_0 := fun (n_ : Nat) => (show ((((w49.drewN n_).setCell ⟨gb638, 0, none⟩ (.int .i64 ((rd_T72 l0 x7_1).f0))).setCell ⟨gb638, 1, none⟩ (.int .i64 ((rd_T72 l0 x7_1).f1)))).cell? _ = some _ from hx640_0)); (try have hy640_1 := fun (n_ : Nat) => (show ((((w49.drewN n_).setCell ⟨gb638, 0, none⟩ (.int .i64 ((rd_T72 l0 x7_1).f0))).setCell ⟨gb638, 1, none⟩ (.int .i64 ((rd_T72 l0 x7_1).f1)))).cell? _ = some _ from hx640_1)); clear hn640_0; clear hn640_1; replace p640 := eq_true p640; replace q640 := eq_true q640))
             repeat (go_quiet (first | ((with_reducible refine gate_dst (N := 4) rfl ?_); (try (refine gate_guard (by rfl) ?_; dsimp only)); refine bxe (N := 4) (cs := #[.int .i64 0, .int .i64 0]) (t := 72) ?_; intro gb638 hg w49 hbox hb; have BK638 := Aside0.mk (hbox); have GW638 : Aside0 (w.heap.size ≤ gb638) := gwx hg; have GE638 : Aside0 (w.heap.size ≤ gb638) := gwx hg; replace HB := Aside0.mk (below_step blx hb); clear hb hbox hg; obtain ⟨hcz50_0, hcz50_1, hfz50_0, hfz50_1⟩ := c2_ BK638; have p640 : 0 ≤ ((ji39) : Int) := odx; have q640 : (ji39) < (l0.length : Int) := odx; obtain ⟨ad640, e640, hx640_0, hx640_1⟩ := at_T72 HR0.out (ji39) p640 q640; obtain rfl : ad637 = ad640 := (by injection e640); have hn640_0 : ad637.block ≠ gb638 := Nat.ne_of_lt (Nat.lt_of_lt_of_le (by have := World.block_lt_of_cell? _ _ hx640_0; first | rwa [add_block] at this | exact this) GW638.out); have hn640_1 : ad637.block ≠ gb638 := Nat.ne_of_lt (Nat.lt_of_lt_of_le (by have := World.block_lt_of_cell? _ _ hx640_0; first | rwa [add_block] at this | exact this) GW638.out); replace hx640_0 := (HB.out.cell (World.block_lt_of_cell? w _ hx640_0)).trans hx640_0; replace hx640_1 := (HB.out.cell (World.block_lt_of_cell? w _ hx640_1)).trans hx640_1; replace hx640_0 := (cell_far (p := ⟨gb638, 0, none⟩) (by first | (rw [add_block]; exact hn640_0) | (show (Addr.add _ _).block ≠ _; rw [add_block]; exact hn640_0) | exact hn640_0) (.int .i64 ((rd_T72 l0 x7_1).f0))).trans hx640_0; replace hx640_1 := (cell_far (p := ⟨gb638, 0, none⟩) (by first | (rw [add_block]; exact hn640_0) | (show (Addr.add _ _).block ≠ _; rw [add_block]; exact hn640_0) | exact hn640_0) (.int .i64 ((rd_T72 l0 x7_1).f0))).trans hx640_1; replace hx640_0 := (cell_far (p := ⟨gb638, 1, none⟩) (by first | (rw [add_block]; exact hn640_1) | (show (Addr.add _ _).block ≠ _; rw [add_block]; exact hn640_1) | exact hn640_1) (.int .i64 ((rd_T72 l0 x7_1).f1))).trans hx640_0; replace hx640_1 := (cell_far (p := ⟨gb638, 1, none⟩) (by first | (rw [add_block]; exact hn640_1) | (show (Addr.add _ _).block ≠ _; rw [add_block]; exact hn640_1) | exact hn640_1) (.int .i64 ((rd_T72 l0 x7_1).f1))).trans hx640_1; (try have hy640_0 := fun (n_ : Nat) => (show ((((w49.drewN n_).setCell ⟨gb638, 0, none⟩ (.int .i64 ((rd_T72 l0 x7_1).f0))).setCell ⟨gb638, 1, none⟩ (.int .i64 ((rd_T72 l0 x7_1).f1)))).cell? _ = some _ from hx640_0)); (try have hy640_1 := fun (n_ : Nat) => (show ((((w49.drewN n_).setCell ⟨gb638, 0, none⟩ (.int .i64 ((rd_T72 l0 x7_1).f0))).setCell ⟨gb638, 1, none⟩ (.int .i64 ((rd_T72 l0 x7_1).f1)))).cell? _ = some _ from hx640_1)); clear hn640_0; clear hn640_1; replace p640 := eq_true p640; replace q640 := eq_true q640)); try go_wp2_with (first | ((with_reducible refine gate_dst (N := 4) rfl ?_); (try (refine gate_guard (by rfl) ?_; dsimp only)); refine bxe (N := 4) (cs := #[.int .i64 0, .int .i64 0]) (t := 72) ?_; intro gb638 hg w49 hbox hb; have BK638 := Aside0.mk (hbox); have GW638 : Aside0 (w.heap.size ≤ gb638) := gwx hg; have GE638 : Aside0 (w.heap.size ≤ gb638) := gwx hg; replace HB := Aside0.mk (below_step blx hb); clear hb hbox hg; obtain ⟨hcz50_0, hcz50_1, hfz50_0, hfz50_1⟩ := c2_ BK638; have p640 : 0 ≤ ((ji39) : Int) := odx; have q640 : (ji39) < (l0.length : Int) := odx; obtain ⟨ad640, e640, hx640_0, hx640_1⟩ := at_T72 HR0.out (ji39) p640 q640; obtain rfl : ad637 = ad640 := (by injection e640); have hn640_0 : ad637.block ≠ gb638 := Nat.ne_of_lt (Nat.lt_of_lt_of_le (by have := World.block_lt_of_cell? _ _ hx640_0; first | rwa [add_block] at this | exact this) GW638.out); have hn640_1 : ad637.block ≠ gb638 := Nat.ne_of_lt (Nat.lt_of_lt_of_le (by have := World.block_lt_of_cell? _ _ hx640_0; first | rwa [add_block] at this | exact this) GW638.out); replace hx640_0 := (HB.out.cell (World.block_lt_of_cell? w _ hx640_0)).trans hx640_0; replace hx640_1 := (HB.out.cell (World.block_lt_of_cell? w _ hx640_1)).trans hx640_1; replace hx640_0 := (cell_far (p := ⟨gb638, 0, none⟩) (by first | (rw [add_block]; exact hn640_0) | (show (Addr.add _ _).block ≠ _; rw [add_block]; exact hn640_0) | exact hn640_0) (.int .i64 ((rd_T72 l0 x7_1).f0))).trans hx640_0; replace hx640_1 := (cell_far (p := ⟨gb638, 0, none⟩) (by first | (rw [add_block]; exact hn640_0) | (show (Addr.add _ _).block ≠ _; rw [add_block]; exact hn640_0) | exact hn640_0) (.int .i64 ((rd_T72 l0 x7_1).f0))).trans hx640_1; replace hx640_0 := (cell_far (p := ⟨gb638, 1, none⟩) (by first | (rw [add_block]; exact hn640_1) | (show (Addr.add _ _).block ≠ _; rw [add_block]; exact hn640_1) | exact hn640_1) (.int .i64 ((rd_T72 l0 x7_1).f1))).trans hx640_0; replace hx640_1 := (cell_far (p := ⟨gb638, 1, none⟩) (by first | (rw [add_block]; exact hn640_1) | (show (Addr.add _ _).block ≠ _; rw [add_block]; exact hn640_1) | exact hn640_1) (.int .i64 ((rd_T72 l0 x7_1).f1))).trans hx640_1; (try have hy640_0 := fun (n_ : Nat) => (show ((((w49.drewN n_).setCell ⟨gb638, 0, none⟩ (.int .i64 ((rd_T72 l0 x7_1).f0))).setCell ⟨gb638, 1, none⟩ (.int .i64 ((rd_T72 l0 x7_1).f1)))).cell? _ = some _ from hx640_0)); (try have hy640_1 := fun (n_ : Nat) => (show ((((w49.drewN n_).setCell ⟨gb638, 0, none⟩ (.int .i64 ((rd_T72 l0 x7_1).f0))).setCell ⟨gb638, 1, none⟩ (.int .i64 ((rd_T72 l0 x7_1).f1)))).cell? _ = some _ from hx640_1)); clear hn640_0; clear hn640_1; replace p640 := eq_true p640; replace q640 := eq_true q640)))
             go_ret
             exact ⟨by first | rfl | (simp [errW_none, errW_some] <;> rfl) | (simp only [← hji39]; first | rfl | (simp [errW_none, errW_some] <;> rfl)) | (simp [*, errW_none, errW_some] <;> rfl), blx⟩
            ·rw [if_neg c48] at H
             have c48b0 : decide (((rd_T72 l0 x7_1).f1) < 0) = false := decide_eq_false c48
             clear c48
             by_cases c51 : ((rd_T72 l0 x7_1).f1) > 1000000
             ·rw [if_pos c51] at H
              have c51b0 : decide (1000000 < ((rd_T72 l0 x7_1).f1)) = true := decide_eq_true c51
              clear c51
              obtain rfl := Option.some.inj H
              have p637 : 0 ≤ (x7_1 : Int) := odx
              have q637 : x7_1 < (l0.length : Int) := odx
              obtain ⟨ad637, e637, hx637_0, hx637_1⟩ := at_T72 HR0.out x7_1 p637 q637
              cases e637
              replace hx637_0 := (HB.out.cell (World.block_lt_of_cell? w _ hx637_0)).trans hx637_0
              replace hx637_1 := (HB.out.cell (World.block_lt_of_cell? w _ hx637_1)).trans hx637_1
              replace p637 := eq_true p637
              replace q637 := eq_true q637
              go_wp2_with (first | ((with_reducible refine gate_dst (N := 4) rfl ?_); (try (refine gate_guard (by rfl) ?_; dsimp only)); refine bxe (N := 4) (cs := #[.int .i64 0, .int .i64 0]) (t := 72) ?_; intro gb638 hg w52 hbox hb; have BK638 := Aside0.mk (hbox); have GW638 : Aside0 (w.heap.size ≤ gb638) := gwx hg; have GE638 : Aside0 (w.heap.size ≤ gb638) := gwx hg; replace HB := Aside0.mk (below_step blx hb); clear hb hbox hg; obtain ⟨hcz53_0, hcz53_1, hfz53_0, hfz53_1⟩ := c2_ BK638; have p640 : 0 ≤ ((ji39) : Int) := odx; have q640 : (ji39) < (l0.length : Int) := odx; obtain ⟨ad640, e640, hx640_0, hx640_1⟩ := at_T72 HR0.out (ji39) p640 q640; obtain rfl : ad637 = ad640 := (by injection e640); have hn640_0 : ad637.block ≠ gb638 := Nat.ne_of_lt (Nat.lt_of_lt_of_le (by have := World.block_lt_of_cell? _ _ hx640_0; first | rwa [add_block] at this | exact this) GW638.out); have hn640_1 : ad637.block ≠ gb638 := Nat.ne_of_lt (Nat.lt_of_lt_of_le (by have := World.block_lt_of_cell? _ _ hx640_0; first | rwa [add_block] at this | exact this) GW638.out); replace hx640_0 := (HB.out.cell (World.block_lt_of_cell? w _ hx640_0)).trans hx640_0; replace hx640_1 := (HB.out.cell (World.block_lt_of_cell? w _ hx640_1)).trans hx640_1; replace hx640_0 := (cell_far (p := ⟨gb638, 0, none⟩) (by first | (rw [add_block]; exact hn640_0) | (show (Addr.add _ _).block ≠ _; rw [add_block]; exact hn640_0) | exact hn640_0) (.int .i64 ((rd_T72 l0 x7_1).f0))).trans hx640_0; replace hx640_1 := (cell_far (p := ⟨gb638, 0, none⟩) (by first | (rw [add_block]; exact hn640_0) | (show (Addr.add _ _).block ≠ _; rw [add_block]; exact hn640_0) | exact hn640_0) (.int .i64 ((rd_T72 l0 x7_1).f0))).trans hx640_1; replace hx640_0 := (cell_far (p := ⟨gb638, 1, none⟩) (by first | (rw [add_block]; exact hn640_1) | (show (Addr.add _ _).block ≠ _; rw [add_block]; exact hn640_1) | exact hn640_1) (.int .i64 ((rd_T72 l0 x7_1).f1))).trans hx640_0; replace hx640_1 := (cell_far (p := ⟨gb638, 1, none⟩) (by first | (rw [add_block]; exact hn640_1) | (show (Addr.add _ _).block ≠ _; rw [add_block]; exact hn640_1) | exact hn640_1) (.int .i64 ((rd_T72 l0 x7_1).f1))).trans hx640_1; (try have hy640_0 := fun (n_ : Nat) => (show ((((w52.drewN n_).setCell ⟨gb638, 0, none⟩ (.int .i64 ((rd_T72 l0 x7_1).f0))).setCell ⟨gb638, 1, none⟩ (.int .i64 ((rd_T72 l0 x7_1).f1)))).cell? _ = some _ from hx640_0)); (try have hy640_1 := fun (n_ : Nat) => (show ((((w52.drewN n_).setCell ⟨gb638, 0, none⟩ (.int .i64 ((rd_T72 l0 x7_1).f0))).setCell ⟨gb638, 1, none⟩ (.int .i64 ((rd_T72 l0 x7_1).f1)))).cell? _ = some _ from hx640_1)); clear hn640_0; clear hn640_1; replace p640 := eq_true p640; replace q640 := eq_true q640))
              repeat (go_quiet (first | ((with_reducible refine gate_dst (N := 4) rfl ?_); (try (refine gate_guard (by rfl) ?_; dsimp only)); refine bxe (N := 4) (cs := #[.int .i64 0, .int .i64 0]) (t := 72) ?_; intro gb638 hg w52 hbox hb; have BK638 := Aside0.mk (hbox); have GW638 : Aside0 (w.heap.size ≤ gb638) := gwx hg; have GE638 : Aside0 (w.heap.size ≤ gb638) := gwx hg; replace HB := Aside0.mk (below_step blx hb); clear hb hbox hg; obtain ⟨hcz53_0, hcz53_1, hfz53_0, hfz53_1⟩ := c2_ BK638; have p640 : 0 ≤ ((ji39) : Int) := odx; have q640 : (ji39) < (l0.length : Int) := odx; obtain ⟨ad640, e640, hx640_0, hx640_1⟩ := at_T72 HR0.out (ji39) p640 q640; obtain rfl : ad637 = ad640 := (by injection e640); have hn640_0 : ad637.block ≠ gb638 := Nat.ne_of_lt (Nat.lt_of_lt_of_le (by have := World.block_lt_of_cell? _ _ hx640_0; first | rwa [add_block] at this | exact this) GW638.out); have hn640_1 : ad637.block ≠ gb638 := Nat.ne_of_lt (Nat.lt_of_lt_of_le (by have := World.block_lt_of_cell? _ _ hx640_0; first | rwa [add_block] at this | exact this) GW638.out); replace hx640_0 := (HB.out.cell (World.block_lt_of_cell? w _ hx640_0)).trans hx640_0; replace hx640_1 := (HB.out.cell (World.block_lt_of_cell? w _ hx640_1)).trans hx640_1; replace hx640_0 := (cell_far (p := ⟨gb638, 0, none⟩) (by first | (rw [add_block]; exact hn640_0) | (show (Addr.add _ _).block ≠ _; rw [add_block]; exact hn640_0) | exact hn640_0) (.int .i64 ((rd_T72 l0 x7_1).f0))).trans hx640_0; replace hx640_1 := (cell_far (p := ⟨gb638, 0, none⟩) (by first | (rw [add_block]; exact hn640_0) | (show (Addr.add _ _).block ≠ _; rw [add_block]; exact hn640_0) | exact hn640_0) (.int .i64 ((rd_T72 l0 x7_1).f0))).trans hx640_1; replace hx640_0 := (cell_far (p := ⟨gb638, 1, none⟩) (by first | (rw [add_block]; exact hn640_1) | (show (Addr.add _ _).block ≠ _; rw [add_block]; exact hn640_1) | exact hn640_1) (.int .i64 ((rd_T72 l0 x7_1).f1))).trans hx640_0; replace hx640_1 := (cell_far (p := ⟨gb638, 1, none⟩) (by first | (rw [add_block]; exact hn640_1) | (show (Addr.add _ _).block ≠ _; rw [add_block]; exact hn640_1) | exact hn640_1) (.int .i64 ((rd_T72 l0 x7_1).f1))).trans hx640_1; (try have hy640_0 := fun (n_ : Nat) => (show ((((w52.drewN n_).setCell ⟨gb638, 0, none⟩ (.int .i64 ((rd_T72 l0 x7_1).f0))).setCell ⟨gb638, 1, none⟩ (.int .i64 ((rd_T72 l0 x7_1).f1)))).cell? _ = some _ from hx640_0)); (try have hy640_1 := fun (n_ : Nat) => (show ((((w52.drewN n_).setCell ⟨gb638, 0, none⟩ (.int .i64 ((rd_T72 l0 x7_1).f0))).setCell ⟨gb638, 1, none⟩ (.int .i64 ((rd_T72 l0 x7_1).f1)))).cell? _ = some _ from hx640_1)); clear hn640_0; clear hn640_1; replace p640 := eq_true p640; replace q640 := eq_true q640)); try go_wp2_with (first | ((with_reducible refine gate_dst (N := 4) rfl ?_); (try (refine gate_guard (by rfl) ?_; dsimp only)); refine bxe (N := 4) (cs := #[.int .i64 0, .int .i64 0]) (t := 72) ?_; intro gb638 hg w52 hbox hb; have BK638 := Aside0.mk (hbox); have GW638 : Aside0 (w.heap.size ≤ gb638) := gwx hg; have GE638 : Aside0 (w.heap.size ≤ gb638) := gwx hg; replace HB := Aside0.mk (below_step blx hb); clear hb hbox hg; obtain ⟨hcz53_0, hcz53_1, hfz53_0, hfz53_1⟩ := c2_ BK638; have p640 : 0 ≤ ((ji39) : Int) := odx; have q640 : (ji39) < (l0.length : Int) := odx; obtain ⟨ad640, e640, hx640_0, hx640_1⟩ := at_T72 HR0.out (ji39) p640 q640; obtain rfl : ad637 = ad640 := (by injection e640); have hn640_0 : ad637.block ≠ gb638 := Nat.ne_of_lt (Nat.lt_of_lt_of_le (by have := World.block_lt_of_cell? _ _ hx640_0; first | rwa [add_block] at this | exact this) GW638.out); have hn640_1 : ad637.block ≠ gb638 := Nat.ne_of_lt (Nat.lt_of_lt_of_le (by have := World.block_lt_of_cell? _ _ hx640_0; first | rwa [add_block] at this | exact this) GW638.out); replace hx640_0 := (HB.out.cell (World.block_lt_of_cell? w _ hx640_0)).trans hx640_0; replace hx640_1 := (HB.out.cell (World.block_lt_of_cell? w _ hx640_1)).trans hx640_1; replace hx640_0 := (cell_far (p := ⟨gb638, 0, none⟩) (by first | (rw [add_block]; exact hn640_0) | (show (Addr.add _ _).block ≠ _; rw [add_block]; exact hn640_0) | exact hn640_0) (.int .i64 ((rd_T72 l0 x7_1).f0))).trans hx640_0; replace hx640_1 := (cell_far (p := ⟨gb638, 0, none⟩) (by first | (rw [add_block]; exact hn640_0) | (show (Addr.add _ _).block ≠ _; rw [add_block]; exact hn640_0) | exact hn640_0) (.int .i64 ((rd_T72 l0 x7_1).f0))).trans hx640_1; replace hx640_0 := (cell_far (p := ⟨gb638, 1, none⟩) (by first | (rw [add_block]; exact hn640_1) | (show (Addr.add _ _).block ≠ _; rw [add_block]; exact hn640_1) | exact hn640_1) (.int .i64 ((rd_T72 l0 x7_1).f1))).trans hx640_0; replace hx640_1 := (cell_far (p := ⟨gb638, 1, none⟩) (by first | (rw [add_block]; exact hn640_1) | (show (Addr.add _ _).block ≠ _; rw [add_block]; exact hn640_1) | exact hn640_1) (.int .i64 ((rd_T72 l0 x7_1).f1))).trans hx640_1; (try have hy640_0 := fun (n_ : Nat) => (show ((((w52.drewN n_).setCell ⟨gb638, 0, none⟩ (.int .i64 ((rd_T72 l0 x7_1).f0))).setCell ⟨gb638, 1, none⟩ (.int .i64 ((rd_T72 l0 x7_1).f1)))).cell? _ = some _ from hx640_0)); (try have hy640_1 := fun (n_ : Nat) => (show ((((w52.drewN n_).setCell ⟨gb638, 0, none⟩ (.int .i64 ((rd_T72 l0 x7_1).f0))).setCell ⟨gb638, 1, none⟩ (.int .i64 ((rd_T72 l0 x7_1).f1)))).cell? _ = some _ from hx640_1)); clear hn640_0; clear hn640_1; replace p640 := eq_true p640; replace q640 := eq_true q640)))
              go_ret
              exact ⟨by first | rfl | (simp [errW_none, errW_some] <;> rfl) | (simp only [← hji39]; first | rfl | (simp [errW_none, errW_some] <;> rfl)) | (simp [*, errW_none, errW_some] <;> rfl), blx⟩
             ·rw [if_neg c51] at H
              have c51b0 : decide (1000000 < ((rd_T72 l0 x7_1).f1)) = false := decide_eq_false c51
              clear c51
              have H' := Aside0.mk H
              clear H
              have p637 : 0 ≤ (x7_1 : Int) := odx
              have q637 : x7_1 < (l0.length : Int) := odx
              obtain ⟨ad637, e637, hx637_0, hx637_1⟩ := at_T72 HR0.out x7_1 p637 q637
              cases e637
              replace hx637_0 := (HB.out.cell (World.block_lt_of_cell? w _ hx637_0)).trans hx637_0
              replace hx637_1 := (HB.out.cell (World.block_lt_of_cell? w _ hx637_1)).trans hx637_1
              replace p637 := eq_true p637
              replace q637 := eq_true q637
              go_wp2_with (first | ((with_reducible refine gate_dst (N := 4) rfl ?_); (try (refine gate_guard (by rfl) ?_; dsimp only)); refine bxe (N := 4) (cs := #[.int .i64 0, .int .i64 0]) (t := 72) ?_; intro gb638 hg w54 hbox hb; have BK638 := Aside0.mk (hbox); have GW638 : Aside0 (w.heap.size ≤ gb638) := gwx hg; have GE638 : Aside0 (w.heap.size ≤ gb638) := gwx hg; replace HB := Aside0.mk (below_step blx hb); clear hb hbox hg; obtain ⟨hcz55_0, hcz55_1, hfz55_0, hfz55_1⟩ := c2_ BK638; have p640 : 0 ≤ ((ji39) : Int) := odx; have q640 : (ji39) < (l0.length : Int) := odx; obtain ⟨ad640, e640, hx640_0, hx640_1⟩ := at_T72 HR0.out (ji39) p640 q640; obtain rfl : ad637 = ad640 := (by injection e640); have hn640_0 : ad637.block ≠ gb638 := Nat.ne_of_lt (Nat.lt_of_lt_of_le (by have := World.block_lt_of_cell? _ _ hx640_0; first | rwa [add_block] at this | exact this) GW638.out); have hn640_1 : ad637.block ≠ gb638 := Nat.ne_of_lt (Nat.lt_of_lt_of_le (by have := World.block_lt_of_cell? _ _ hx640_0; first | rwa [add_block] at this | exact this) GW638.out); replace hx640_0 := (HB.out.cell (World.block_lt_of_cell? w _ hx640_0)).trans hx640_0; replace hx640_1 := (HB.out.cell (World.block_lt_of_cell? w _ hx640_1)).trans hx640_1; replace hx640_0 := (cell_far (p := ⟨gb638, 0, none⟩) (by first | (rw [add_block]; exact hn640_0) | (show (Addr.add _ _).block ≠ _; rw [add_block]; exact hn640_0) | exact hn640_0) (.int .i64 ((rd_T72 l0 x7_1).f0))).trans hx640_0; replace hx640_1 := (cell_far (p := ⟨gb638, 0, none⟩) (by first | (rw [add_block]; exact hn640_0) | (show (Addr.add _ _).block ≠ _; rw [add_block]; exact hn640_0) | exact hn640_0) (.int .i64 ((rd_T72 l0 x7_1).f0))).trans hx640_1; replace hx640_0 := (cell_far (p := ⟨gb638, 1, none⟩) (by first | (rw [add_block]; exact hn640_1) | (show (Addr.add _ _).block ≠ _; rw [add_block]; exact hn640_1) | exact hn640_1) (.int .i64 ((rd_T72 l0 x7_1).f1))).trans hx640_0; replace hx640_1 := (cell_far (p := ⟨gb638, 1, none⟩) (by first | (rw [add_block]; exact hn640_1) | (show (Addr.add _ _).block ≠ _; rw [add_block]; exact hn640_1) | exact hn640_1) (.int .i64 ((rd_T72 l0 x7_1).f1))).trans hx640_1; (try have hy640_0 := fun (n_ : Nat) => (show ((((w54.drewN n_).setCell ⟨gb638, 0, none⟩ (.int .i64 ((rd_T72 l0 x7_1).f0))).setCell ⟨gb638, 1, none⟩ (.int .i64 ((rd_T72 l0 x7_1).f1)))).cell? _ = some _ from hx640_0)); (try have hy640_1 := fun (n_ : Nat) => (show ((((w54.drewN n_).setCell ⟨gb638, 0, none⟩ (.int .i64 ((rd_T72 l0 x7_1).f0))).setCell ⟨gb638, 1, none⟩ (.int .i64 ((rd_T72 l0 x7_1).f1)))).cell? _ = some _ from hx640_1)); clear hn640_0; clear hn640_1; replace p640 := eq_true p640; replace q640 := eq_true q640))
              repeat (go_quiet (first | ((with_reducible refine gate_dst (N := 4) rfl ?_); (try (refine gate_guard (by rfl) ?_; dsimp only)); refine bxe (N := 4) (cs := #[.int .i64 0, .int .i64 0]) (t := 72) ?_; intro gb638 hg w54 hbox hb; have BK638 := Aside0.mk (hbox); have GW638 : Aside0 (w.heap.size ≤ gb638) := gwx hg; have GE638 : Aside0 (w.heap.size ≤ gb638) := gwx hg; replace HB := Aside0.mk (below_step blx hb); clear hb hbox hg; obtain ⟨hcz55_0, hcz55_1, hfz55_0, hfz55_1⟩ := c2_ BK638; have p640 : 0 ≤ ((ji39) : Int) := odx; have q640 : (ji39) < (l0.length : Int) := odx; obtain ⟨ad640, e640, hx640_0, hx640_1⟩ := at_T72 HR0.out (ji39) p640 q640; obtain rfl : ad637 = ad640 := (by injection e640); have hn640_0 : ad637.block ≠ gb638 := Nat.ne_of_lt (Nat.lt_of_lt_of_le (by have := World.block_lt_of_cell? _ _ hx640_0; first | rwa [add_block] at this | exact this) GW638.out); have hn640_1 : ad637.block ≠ gb638 := Nat.ne_of_lt (Nat.lt_of_lt_of_le (by have := World.block_lt_of_cell? _ _ hx640_0; first | rwa [add_block] at this | exact this) GW638.out); replace hx640_0 := (HB.out.cell (World.block_lt_of_cell? w _ hx640_0)).trans hx640_0; replace hx640_1 := (HB.out.cell (World.block_lt_of_cell? w _ hx640_1)).trans hx640_1; replace hx640_0 := (cell_far (p := ⟨gb638, 0, none⟩) (by first | (rw [add_block]; exact hn640_0) | (show (Addr.add _ _).block ≠ _; rw [add_block]; exact hn640_0) | exact hn640_0) (.int .i64 ((rd_T72 l0 x7_1).f0))).trans hx640_0; replace hx640_1 := (cell_far (p := ⟨gb638, 0, none⟩) (by first | (rw [add_block]; exact hn640_0) | (show (Addr.add _ _).block ≠ _; rw [add_block]; exact hn640_0) | exact hn640_0) (.int .i64 ((rd_T72 l0 x7_1).f0))).trans hx640_1; replace hx640_0 := (cell_far (p := ⟨gb638, 1, none⟩) (by first | (rw [add_block]; exact hn640_1) | (show (Addr.add _ _).block ≠ _; rw [add_block]; exact hn640_1) | exact hn640_1) (.int .i64 ((rd_T72 l0 x7_1).f1))).trans hx640_0; replace hx640_1 := (cell_far (p := ⟨gb638, 1, none⟩) (by first | (rw [add_block]; exact hn640_1) | (show (Addr.add _ _).block ≠ _; rw [add_block]; exact hn640_1) | exact hn640_1) (.int .i64 ((rd_T72 l0 x7_1).f1))).trans hx640_1; (try have hy640_0 := fun (n_ : Nat) => (show ((((w54.drewN n_).setCell ⟨gb638, 0, none⟩ (.int .i64 ((rd_T72 l0 x7_1).f0))).setCell ⟨gb638, 1, none⟩ (.int .i64 ((rd_T72 l0 x7_1).f1)))).cell? _ = some _ from hx640_0)); (try have hy640_1 := fun (n_ : Nat) => (show ((((w54.drewN n_).setCell ⟨gb638, 0, none⟩ (.int .i64 ((rd_T72 l0 x7_1).f0))).setCell ⟨gb638, 1, none⟩ (.int .i64 ((rd_T72 l0 x7_1).f1)))).cell? _ = some _ from hx640_1)); clear hn640_0; clear hn640_1; replace p640 := eq_true p640; replace q640 := eq_true q640)); try go_wp2_with (first | ((with_reducible refine gate_dst (N := 4) rfl ?_); (try (refine gate_guard (by rfl) ?_; dsimp only)); refine bxe (N := 4) (cs := #[.int .i64 0, .int .i64 0]) (t := 72) ?_; intro gb638 hg w54 hbox hb; have BK638 := Aside0.mk (hbox); have GW638 : Aside0 (w.heap.size ≤ gb638) := gwx hg; have GE638 : Aside0 (w.heap.size ≤ gb638) := gwx hg; replace HB := Aside0.mk (below_step blx hb); clear hb hbox hg; obtain ⟨hcz55_0, hcz55_1, hfz55_0, hfz55_1⟩ := c2_ BK638; have p640 : 0 ≤ ((ji39) : Int) := odx; have q640 : (ji39) < (l0.length : Int) := odx; obtain ⟨ad640, e640, hx640_0, hx640_1⟩ := at_T72 HR0.out (ji39) p640 q640; obtain rfl : ad637 = ad640 := (by injection e640); have hn640_0 : ad637.block ≠ gb638 := Nat.ne_of_lt (Nat.lt_of_lt_of_le (by have := World.block_lt_of_cell? _ _ hx640_0; first | rwa [add_block] at this | exact this) GW638.out); have hn640_1 : ad637.block ≠ gb638 := Nat.ne_of_lt (Nat.lt_of_lt_of_le (by have := World.block_lt_of_cell? _ _ hx640_0; first | rwa [add_block] at this | exact this) GW638.out); replace hx640_0 := (HB.out.cell (World.block_lt_of_cell? w _ hx640_0)).trans hx640_0; replace hx640_1 := (HB.out.cell (World.block_lt_of_cell? w _ hx640_1)).trans hx640_1; replace hx640_0 := (cell_far (p := ⟨gb638, 0, none⟩) (by first | (rw [add_block]; exact hn640_0) | (show (Addr.add _ _).block ≠ _; rw [add_block]; exact hn640_0) | exact hn640_0) (.int .i64 ((rd_T72 l0 x7_1).f0))).trans hx640_0; replace hx640_1 := (cell_far (p := ⟨gb638, 0, none⟩) (by first | (rw [add_block]; exact hn640_0) | (show (Addr.add _ _).block ≠ _; rw [add_block]; exact hn640_0) | exact hn640_0) (.int .i64 ((rd_T72 l0 x7_1).f0))).trans hx640_1; replace hx640_0 := (cell_far (p := ⟨gb638, 1, none⟩) (by first | (rw [add_block]; exact hn640_1) | (show (Addr.add _ _).block ≠ _; rw [add_block]; exact hn640_1) | exact hn640_1) (.int .i64 ((rd_T72 l0 x7_1).f1))).trans hx640_0; replace hx640_1 := (cell_far (p := ⟨gb638, 1, none⟩) (by first | (rw [add_block]; exact hn640_1) | (show (Addr.add _ _).block ≠ _; rw [add_block]; exact hn640_1) | exact hn640_1) (.int .i64 ((rd_T72 l0 x7_1).f1))).trans hx640_1; (try have hy640_0 := fun (n_ : Nat) => (show ((((w54.drewN n_).setCell ⟨gb638, 0, none⟩ (.int .i64 ((rd_T72 l0 x7_1).f0))).setCell ⟨gb638, 1, none⟩ (.int .i64 ((rd_T72 l0 x7_1).f1)))).cell? _ = some _ from hx640_0)); (try have hy640_1 := fun (n_ : Nat) => (show ((((w54.drewN n_).setCell ⟨gb638, 0, none⟩ (.int .i64 ((rd_T72 l0 x7_1).f0))).setCell ⟨gb638, 1, none⟩ (.int .i64 ((rd_T72 l0 x7_1).f1)))).cell? _ = some _ from hx640_1)); clear hn640_0; clear hn640_1; replace p640 := eq_true p640; replace q640 := eq_true q640)))
              go_roundg k1
              case measure => have := HK1.out; omega
              case rel => exact ⟨(wrap64 (x7_1 + 1)), (by first | rfl | (simp; done) | (simp [*]; done)), H', ⟨by have := HK1.out; omega⟩, ⟨blx⟩⟩
         ·rw [if_neg c41] at H
          exact absurd H (by simp)
        ·rw [if_neg c40] at H
         exact absurd H (by simp)
       ·rw [if_neg c38] at H
        have c38b0 : decide (0 < x7_1) = false := decide_eq_false c38
        clear c38
        by_cases c56 : ((rd_T72 l0 x7_1).f0) > 9999999999999
        ·rw [if_pos c56] at H
         have c56b0 : decide (9999999999999 < ((rd_T72 l0 x7_1).f0)) = true := decide_eq_true c56
         clear c56
         obtain rfl := Option.some.inj H
         have p637 : 0 ≤ (x7_1 : Int) := odx
         have q637 : x7_1 < (l0.length : Int) := odx
         obtain ⟨ad637, e637, hx637_0, hx637_1⟩ := at_T72 HR0.out x7_1 p637 q637
         cases e637
         replace hx637_0 := (HB.out.cell (World.block_lt_of_cell? w _ hx637_0)).trans hx637_0
         replace hx637_1 := (HB.out.cell (World.block_lt_of_cell? w _ hx637_1)).trans hx637_1
         replace p637 := eq_true p637
         replace q637 := eq_true q637
         go_wp2_with (first | ((with_reducible refine gate_dst (N := 4) rfl ?_); (try (refine gate_guard (by rfl) ?_; dsimp only)); refine bxe (N := 4) (cs := #[.int .i64 0, .int .i64 0]) (t := 72) ?_; intro gb638 hg w57 hbox hb; have BK638 := Aside0.mk (hbox); have GW638 : Aside0 (w.heap.size ≤ gb638) := gwx hg; have GE638 : Aside0 (w.heap.size ≤ gb638) := gwx hg; replace HB := Aside0.mk (below_step blx hb); clear hb hbox hg; obtain ⟨hcz58_0, hcz58_1, hfz58_0, hfz58_1⟩ := c2_ BK638))
         repeat (go_quiet (first | ((with_reducible refine gate_dst (N := 4) rfl ?_); (try (refine gate_guard (by rfl) ?_; dsimp only)); refine bxe (N := 4) (cs := #[.int .i64 0, .int .i64 0]) (t := 72) ?_; intro gb638 hg w57 hbox hb; have BK638 := Aside0.mk (hbox); have GW638 : Aside0 (w.heap.size ≤ gb638) := gwx hg; have GE638 : Aside0 (w.heap.size ≤ gb638) := gwx hg; replace HB := Aside0.mk (below_step blx hb); clear hb hbox hg; obtain ⟨hcz58_0, hcz58_1, hfz58_0, hfz58_1⟩ := c2_ BK638)); try go_wp2_with (first | ((with_reducible refine gate_dst (N := 4) rfl ?_); (try (refine gate_guard (by rfl) ?_; dsimp only)); refine bxe (N := 4) (cs := #[.int .i64 0, .int .i64 0]) (t := 72) ?_; intro gb638 hg w57 hbox hb; have BK638 := Aside0.mk (hbox); have GW638 : Aside0 (w.heap.size ≤ gb638) := gwx hg; have GE638 : Aside0 (w.heap.size ≤ gb638) := gwx hg; replace HB := Aside0.mk (below_step blx hb); clear hb hbox hg; obtain ⟨hcz58_0, hcz58_1, hfz58_0, hfz58_1⟩ := c2_ BK638)))
         go_ret
         exact ⟨by first | rfl | (simp [errW_none, errW_some] <;> rfl) | (simp [*, errW_none, errW_some] <;> rfl), blx⟩
        ·rw [if_neg c56] at H
         have c56b0 : decide (9999999999999 < ((rd_T72 l0 x7_1).f0)) = false := decide_eq_false c56
         clear c56
         by_cases c59 : ((rd_T72 l0 x7_1).f1) < 0
         ·rw [if_pos c59] at H
          have c59b0 : decide (((rd_T72 l0 x7_1).f1) < 0) = true := decide_eq_true c59
          clear c59
          obtain rfl := Option.some.inj H
          have p637 : 0 ≤ (x7_1 : Int) := odx
          have q637 : x7_1 < (l0.length : Int) := odx
          obtain ⟨ad637, e637, hx637_0, hx637_1⟩ := at_T72 HR0.out x7_1 p637 q637
          cases e637
          replace hx637_0 := (HB.out.cell (World.block_lt_of_cell? w _ hx637_0)).trans hx637_0
          replace hx637_1 := (HB.out.cell (World.block_lt_of_cell? w _ hx637_1)).trans hx637_1
          replace p637 := eq_true p637
          replace q637 := eq_true q637
          go_wp2_with (first | ((with_reducible refine gate_dst (N := 4) rfl ?_); (try (refine gate_guard (by rfl) ?_; dsimp only)); refine bxe (N := 4) (cs := #[.int .i64 0, .int .i64 0]) (t := 72) ?_; intro gb638 hg w60 hbox hb; have BK638 := Aside0.mk (hbox); have GW638 : Aside0 (w.heap.size ≤ gb638) := gwx hg; have GE638 : Aside0 (w.heap.size ≤ gb638) := gwx hg; replace HB := Aside0.mk (below_step blx hb); clear hb hbox hg; obtain ⟨hcz61_0, hcz61_1, hfz61_0, hfz61_1⟩ := c2_ BK638))
          repeat (go_quiet (first | ((with_reducible refine gate_dst (N := 4) rfl ?_); (try (refine gate_guard (by rfl) ?_; dsimp only)); refine bxe (N := 4) (cs := #[.int .i64 0, .int .i64 0]) (t := 72) ?_; intro gb638 hg w60 hbox hb; have BK638 := Aside0.mk (hbox); have GW638 : Aside0 (w.heap.size ≤ gb638) := gwx hg; have GE638 : Aside0 (w.heap.size ≤ gb638) := gwx hg; replace HB := Aside0.mk (below_step blx hb); clear hb hbox hg; obtain ⟨hcz61_0, hcz61_1, hfz61_0, hfz61_1⟩ := c2_ BK638)); try go_wp2_with (first | ((with_reducible refine gate_dst (N := 4) rfl ?_); (try (refine gate_guard (by rfl) ?_; dsimp only)); refine bxe (N := 4) (cs := #[.int .i64 0, .int .i64 0]) (t := 72) ?_; intro gb638 hg w60 hbox hb; have BK638 := Aside0.mk (hbox); have GW638 : Aside0 (w.heap.size ≤ gb638) := gwx hg; have GE638 : Aside0 (w.heap.size ≤ gb638) := gwx hg; replace HB := Aside0.mk (below_step blx hb); clear hb hbox hg; obtain ⟨hcz61_0, hcz61_1, hfz61_0, hfz61_1⟩ := c2_ BK638)))
          go_ret
          exact ⟨by first | rfl | (simp [errW_none, errW_some] <;> rfl) | (simp [*, errW_none, errW_some] <;> rfl), blx⟩
         ·rw [if_neg c59] at H
          have c59b0 : decide (((rd_T72 l0 x7_1).f1) < 0) = false := decide_eq_false c59
          clear c59
          by_cases c62 : ((rd_T72 l0 x7_1).f1) > 1000000
          ·rw [if_pos c62] at H
           have c62b0 : decide (1000000 < ((rd_T72 l0 x7_1).f1)) = true := decide_eq_true c62
           clear c62
           obtain rfl := Option.some.inj H
           have p637 : 0 ≤ (x7_1 : Int) := odx
           have q637 : x7_1 < (l0.length : Int) := odx
           obtain ⟨ad637, e637, hx637_0, hx637_1⟩ := at_T72 HR0.out x7_1 p637 q637
           cases e637
           replace hx637_0 := (HB.out.cell (World.block_lt_of_cell? w _ hx637_0)).trans hx637_0
           replace hx637_1 := (HB.out.cell (World.block_lt_of_cell? w _ hx637_1)).trans hx637_1
           replace p637 := eq_true p637
           replace q637 := eq_true q637
           go_wp2_with (first | ((with_reducible refine gate_dst (N := 4) rfl ?_); (try (refine gate_guard (by rfl) ?_; dsimp only)); refine bxe (N := 4) (cs := #[.int .i64 0, .int .i64 0]) (t := 72) ?_; intro gb638 hg w63 hbox hb; have BK638 := Aside0.mk (hbox); have GW638 : Aside0 (w.heap.size ≤ gb638) := gwx hg; have GE638 : Aside0 (w.heap.size ≤ gb638) := gwx hg; replace HB := Aside0.mk (below_step blx hb); clear hb hbox hg; obtain ⟨hcz64_0, hcz64_1, hfz64_0, hfz64_1⟩ := c2_ BK638))
           repeat (go_quiet (first | ((with_reducible refine gate_dst (N := 4) rfl ?_); (try (refine gate_guard (by rfl) ?_; dsimp only)); refine bxe (N := 4) (cs := #[.int .i64 0, .int .i64 0]) (t := 72) ?_; intro gb638 hg w63 hbox hb; have BK638 := Aside0.mk (hbox); have GW638 : Aside0 (w.heap.size ≤ gb638) := gwx hg; have GE638 : Aside0 (w.heap.size ≤ gb638) := gwx hg; replace HB := Aside0.mk (below_step blx hb); clear hb hbox hg; obtain ⟨hcz64_0, hcz64_1, hfz64_0, hfz64_1⟩ := c2_ BK638)); try go_wp2_with (first | ((with_reducible refine gate_dst (N := 4) rfl ?_); (try (refine gate_guard (by rfl) ?_; dsimp only)); refine bxe (N := 4) (cs := #[.int .i64 0, .int .i64 0]) (t := 72) ?_; intro gb638 hg w63 hbox hb; have BK638 := Aside0.mk (hbox); have GW638 : Aside0 (w.heap.size ≤ gb638) := gwx hg; have GE638 : Aside0 (w.heap.size ≤ gb638) := gwx hg; replace HB := Aside0.mk (below_step blx hb); clear hb hbox hg; obtain ⟨hcz64_0, hcz64_1, hfz64_0, hfz64_1⟩ := c2_ BK638)))
           go_ret
           exact ⟨by first | rfl | (simp [errW_none, errW_some] <;> rfl) | (simp [*, errW_none, errW_some] <;> rfl), blx⟩
          ·rw [if_neg c62] at H
           have c62b0 : decide (1000000 < ((rd_T72 l0 x7_1).f1)) = false := decide_eq_false c62
           clear c62
           have H' := Aside0.mk H
           clear H
           have p637 : 0 ≤ (x7_1 : Int) := odx
           have q637 : x7_1 < (l0.length : Int) := odx
           obtain ⟨ad637, e637, hx637_0, hx637_1⟩ := at_T72 HR0.out x7_1 p637 q637
           cases e637
           replace hx637_0 := (HB.out.cell (World.block_lt_of_cell? w _ hx637_0)).trans hx637_0
           replace hx637_1 := (HB.out.cell (World.block_lt_of_cell? w _ hx637_1)).trans hx637_1
           replace p637 := eq_true p637
           replace q637 := eq_true q637
           go_wp2_with (first | ((with_reducible refine gate_dst (N := 4) rfl ?_); (try (refine gate_guard (by rfl) ?_; dsimp only)); refine bxe (N := 4) (cs := #[.int .i64 0, .int .i64 0]) (t := 72) ?_; intro gb638 hg w65 hbox hb; have BK638 := Aside0.mk (hbox); have GW638 : Aside0 (w.heap.size ≤ gb638) := gwx hg; have GE638 : Aside0 (w.heap.size ≤ gb638) := gwx hg; replace HB := Aside0.mk (below_step blx hb); clear hb hbox hg; obtain ⟨hcz66_0, hcz66_1, hfz66_0, hfz66_1⟩ := c2_ BK638))
           repeat (go_quiet (first | ((with_reducible refine gate_dst (N := 4) rfl ?_); (try (refine gate_guard (by rfl) ?_; dsimp only)); refine bxe (N := 4) (cs := #[.int .i64 0, .int .i64 0]) (t := 72) ?_; intro gb638 hg w65 hbox hb; have BK638 := Aside0.mk (hbox); have GW638 : Aside0 (w.heap.size ≤ gb638) := gwx hg; have GE638 : Aside0 (w.heap.size ≤ gb638) := gwx hg; replace HB := Aside0.mk (below_step blx hb); clear hb hbox hg; obtain ⟨hcz66_0, hcz66_1, hfz66_0, hfz66_1⟩ := c2_ BK638)); try go_wp2_with (first | ((with_reducible refine gate_dst (N := 4) rfl ?_); (try (refine gate_guard (by rfl) ?_; dsimp only)); refine bxe (N := 4) (cs := #[.int .i64 0, .int .i64 0]) (t := 72) ?_; intro gb638 hg w65 hbox hb; have BK638 := Aside0.mk (hbox); have GW638 : Aside0 (w.heap.size ≤ gb638) := gwx hg; have GE638 : Aside0 (w.heap.size ≤ gb638) := gwx hg; replace HB := Aside0.mk (below_step blx hb); clear hb hbox hg; obtain ⟨hcz66_0, hcz66_1, hfz66_0, hfz66_1⟩ := c2_ BK638)))
           go_roundg k1
           case measure => have := HK1.out; omega
           case rel => exact ⟨(wrap64 (x7_1 + 1)), (by first | rfl | (simp; done) | (simp [*]; done)), H', ⟨by have := HK1.out; omega⟩, ⟨blx⟩⟩
     ·rw [if_neg c4] at H
      exact absurd H (by simp)
    ·rw [if_neg c3] at H
     exact absurd H (by simp)
   ·rw [if_neg c2] at H
    have c2b0 : decide (x7_1 < (l0.length : Int)) = false := decide_eq_false c2
    clear c2
    by_cases c67 : (l0.length : Int) ≥ 1
    ·rw [if_pos c67] at H
     have c67b0 : decide (1 ≤ (l0.length : Int)) = true := decide_eq_true c67
     have c67b1 : decide (1 ≤ l0.length) = true := decide_eq_true (by omega)
     clear c67
     obtain rfl := Option.some.inj H
     go_wp2
     repeat (go_quiet (fail); try go_wp2)
     go_ret
     exact ⟨by first | rfl | (simp [errW_none, errW_some] <;> rfl) | (simp [*, errW_none, errW_some] <;> rfl), blx⟩
    ·rw [if_neg c67] at H
     have c67b0 : decide (1 ≤ (l0.length : Int)) = false := decide_eq_false c67
     have c67b1 : decide (1 ≤ l0.length) = false := decide_eq_false (by omega)
     clear c67
     obtain rfl := Option.some.inj H
     go_wp2
     repeat (go_quiet (fail); try go_wp2)
     go_ret
     exact ⟨by first | rfl | (simp [errW_none, errW_some] <;> rfl) | (simp [*, errW_none, errW_some] <;> rfl), blx⟩
end Go.Proofs.YtnjhjaifmgjljaaDoor.PM
end
