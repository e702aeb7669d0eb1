-- Part 6 of the texts of the claim SA (wrote by programs: words of the kit's print.sh, printed functions; and my own texts; joined by wip/tools/pack.py).
import Derived.Test.YtnjhjaifmgjljaaDoorSA5

section
namespace Go.Proofs.YtnjhjaifmgjljaaDoor.PM
open Go.RowKit Go.Proofs.YtnjhjaifmgjljaaDoorW.PrintWords Go.Proofs.YtnjhjaifmgjljaaDoorW.PrintLast Go.Proofs.YtnjhjaifmgjljaaDoorW.PrintMore
attribute [local go_sem] max2_int min2_int max_two min_two max_three min_three max_four min_four
set_option linter.unusedVariables false
set_option linter.unusedSimpArgs false
def money_Scale.j0 : Nat → Int → Int → Int → Bool → Int → Int → Option (Int × Int)
 | 0, _, _, _, _, _, _ => none
 | k + 1, x1, x2, x3, x53, x715000, x715001 => if x53 = true then ((money_fault.f 5).bind fun bt724 => (some (bt724.1, bt724.2))) else ((money_amount.f x715001).bind fun bt726 => ((money_amount.f x1).bind fun bt728 => ((bits_Mul64.f bt726.1 bt728.1).bind fun bt730 => (if bt730.1 ≥ (IntKind.u64.wrap (x2)) then ((money_fault.f 1).bind fun bt732 => (some (bt732.1, bt732.2))) else ((bits_Div64.f k bt730.1 bt730.2 (IntKind.u64.wrap (x2))).bind fun bt734 => ((money_rounded.f k bt734.1 bt734.2 (IntKind.u64.wrap (x2)) (bt726.2 != bt728.2) x3).bind fun bt736 => (if bt736.2 = true then ((money_cents.f bt736.1).bind fun bt738 => (some (bt738.1, bt738.2))) else ((money_fault.f 1).bind fun bt740 => (some (bt740.1, bt740.2))))))))))
def money_Scale.f (k : Nat) (a0_0 : Int) (a0_1 : Int) (a1 : Int) (a2 : Int) (a3 : Int) : Option (Int × Int) := (money_seen.f k (([(⟨a0_0, a0_1⟩ : S23)] : List (S23)))).bind fun bt719 => (if bt719.2.2 = true then (if a0_0 = 1 then (if a1 < (-1000000000) then (money_Scale.j0 k a1 a2 a3 true a0_0 a0_1) else (if a1 > 1000000000 then (money_Scale.j0 k a1 a2 a3 true a0_0 a0_1) else (if a2 < 1 then (money_Scale.j0 k a1 a2 a3 true a0_0 a0_1) else (if a2 > 1000000000 then (money_Scale.j0 k a1 a2 a3 true a0_0 a0_1) else ((money_modes.f a3).bind fun t723 => (money_Scale.j0 k a1 a2 a3 (!t723) a0_0 a0_1)))))) else (money_Scale.j0 k a1 a2 a3 true a0_0 a0_1)) else (some (bt719.1, bt719.2.1)))
theorem money_Scale.mono_l : ∀ k, (∀ y0 y1 y2 y3 y4 y5, LeO (money_Scale.j0 k y0 y1 y2 y3 y4 y5) (money_Scale.j0 (k + 1) y0 y1 y2 y3 y4 y5))
 | 0 => fun _ _ _ _ _ _ r h => by simp [money_Scale.j0] at h
 | k + 1 => by
  have ih0 := money_Scale.mono_l k
  ·intro y0 y1 y2 y3 y4 y5
   unfold money_Scale.j0
   repeat' first
   | (with_reducible exact ih0 _ _ _ _ _ _)
   | (with_reducible exact bits_Div64.mono _ _ _ _)
   | (with_reducible exact money_rounded.mono _ _ _ _ _ _)
   | (with_reducible exact money_seen.mono _ _)
   | (with_reducible exact LeO.refl _)
   | (with_reducible exact LeO.none _)
   | (with_reducible refine LeO.ite ?_ ?_)
   | (with_reducible refine LeO.bind ?_ (fun _ => ?_))
   | exact ih0 _ _ _ _ _ _
   | exact bits_Div64.mono _ _ _ _
   | exact money_rounded.mono _ _ _ _ _ _
   | exact money_seen.mono _ _
   | exact LeO.none _
   | refine LeO.ite ?_ ?_
   | refine LeO.bind ?_ (fun _ => ?_)
theorem money_Scale.mono : ∀ a0 a1 a2 a3 a4 k, LeO (money_Scale.f k a0 a1 a2 a3 a4) (money_Scale.f (k + 1) a0 a1 a2 a3 a4) := by
 intro a0 a1 a2 a3 a4 k
 have ih0 := money_Scale.mono_l k
 unfold money_Scale.f
 repeat' first
   | (with_reducible exact ih0 _ _ _ _ _ _)
   | (with_reducible exact bits_Div64.mono _ _ _ _)
   | (with_reducible exact money_rounded.mono _ _ _ _ _ _)
   | (with_reducible exact money_seen.mono _ _)
   | (with_reducible exact LeO.refl _)
   | (with_reducible exact LeO.none _)
   | (with_reducible refine LeO.ite ?_ ?_)
   | (with_reducible refine LeO.bind ?_ (fun _ => ?_))
   | exact ih0 _ _ _ _ _ _
   | exact bits_Div64.mono _ _ _ _
   | exact money_rounded.mono _ _ _ _ _ _
   | exact money_seen.mono _ _
   | exact LeO.none _
   | refine LeO.ite ?_ ?_
   | refine LeO.bind ?_ (fun _ => ?_)
set_option maxHeartbeats 8000000 in
set_option maxRecDepth 100000 in
theorem money_Scale.calls (k : Nat) (a0_0 : Int) (a0_1 : Int) (a1 : Int) (a2 : Int) (a3 : Int) (r1 : Int) (r2 : Int) (w : World) (h : money_Scale.f k a0_0 a0_1 a1 a2 a3 = some (r1, r2)) (hg0 : Kd.C k87 w (some ⟨0, 0, none⟩) gtab0.length gtab0) :
  Calls Tryd.prog 49 #[.agg #[.int .i64 a0_0, .int .i64 a0_1], .int .i64 a1, .int .i64 a2, .int .i64 a3] w fun e w' => e = .returned (.agg #[.int .i64 r1, .int .i64 r2]) ∧ Below w.heap.size w w' := by
 have HG0 := Aside0.mk hg0
 clear hg0
 have hu23 := Tryd.underlying23
 have HB := Aside0.mk (Below.refl w.heap.size w)
 have H : ((money_seen.f k (([(⟨a0_0, a0_1⟩ : S23)] : List (S23)))).bind fun bt719 => (if bt719.2.2 = true then (if a0_0 = 1 then (if a1 < (-1000000000) then (money_Scale.j0 k a1 a2 a3 true a0_0 a0_1) else (if a1 > 1000000000 then (money_Scale.j0 k a1 a2 a3 true a0_0 a0_1) else (if a2 < 1 then (money_Scale.j0 k a1 a2 a3 true a0_0 a0_1) else (if a2 > 1000000000 then (money_Scale.j0 k a1 a2 a3 true a0_0 a0_1) else ((money_modes.f a3).bind fun t723 => (money_Scale.j0 k a1 a2 a3 (!t723) a0_0 a0_1)))))) else (money_Scale.j0 k a1 a2 a3 true a0_0 a0_1)) else (some (bt719.1, bt719.2.1)))) = some (r1, r2) := h
 clear h
 obtain ⟨y716, hy716⟩ : ∃ y_ : List (S23), y_ = (([(⟨a0_0, a0_1⟩ : S23)] : List (S23))) := ⟨_, rfl⟩
 replace H : ((money_seen.f k y716).bind fun bt719 => (if bt719.2.2 = true then (if a0_0 = 1 then (if a1 < (-1000000000) then (money_Scale.j0 k a1 a2 a3 true a0_0 a0_1) else (if a1 > 1000000000 then (money_Scale.j0 k a1 a2 a3 true a0_0 a0_1) else (if a2 < 1 then (money_Scale.j0 k a1 a2 a3 true a0_0 a0_1) else (if a2 > 1000000000 then (money_Scale.j0 k a1 a2 a3 true a0_0 a0_1) else ((money_modes.f a3).bind fun t723 => (money_Scale.j0 k a1 a2 a3 (!t723) a0_0 a0_1)))))) else (money_Scale.j0 k a1 a2 a3 true a0_0 a0_1)) else (some (bt719.1, bt719.2.1)))) = some (r1, r2) := by first | (rw [hy716]; with_reducible exact H) | (have H2_ := (Option.bind_some _ _).symm.trans H; rw [hy716]; with_reducible exact H2_) | (have H2_ := (Option.bind_some _ _).symm.trans H; with_reducible exact H2_) | with_reducible exact H | (rw [hy716]; exact H) | exact H
 have Ny716 := Aside0.mk hy716
 clear hy716
 replace H := Option.bind_eq_some_iff.mp H
 obtain ⟨⟨t719, t720, t721⟩, A50, H⟩ := H
 replace H : (if t721 = true then (if a0_0 = 1 then (if a1 < (-1000000000) then (money_Scale.j0 k a1 a2 a3 true a0_0 a0_1) else (if a1 > 1000000000 then (money_Scale.j0 k a1 a2 a3 true a0_0 a0_1) else (if a2 < 1 then (money_Scale.j0 k a1 a2 a3 true a0_0 a0_1) else (if a2 > 1000000000 then (money_Scale.j0 k a1 a2 a3 true a0_0 a0_1) else ((money_modes.f a3).bind fun t723 => (money_Scale.j0 k a1 a2 a3 (!t723) a0_0 a0_1)))))) else (money_Scale.j0 k a1 a2 a3 true a0_0 a0_1)) else (some (t719, t720))) = some (r1, r2) := H
 have A5 := Aside0.mk A50
 clear A50
 by_cases c6 : t721 = true
 ·subst c6
  have H1 : (if a0_0 = 1 then (if a1 < (-1000000000) then (money_Scale.j0 k a1 a2 a3 true a0_0 a0_1) else (if a1 > 1000000000 then (money_Scale.j0 k a1 a2 a3 true a0_0 a0_1) else (if a2 < 1 then (money_Scale.j0 k a1 a2 a3 true a0_0 a0_1) else (if a2 > 1000000000 then (money_Scale.j0 k a1 a2 a3 true a0_0 a0_1) else ((money_modes.f a3).bind fun t723 => (money_Scale.j0 k a1 a2 a3 (!t723) a0_0 a0_1)))))) else (money_Scale.j0 k a1 a2 a3 true a0_0 a0_1)) = some (r1, r2) := by rw [if_pos rfl] at H; exact H
  clear H
  have H := H1
  clear H1
  have HC7 := Aside0.mk H
  clear H
  go_enter Tryd.func49, Tryd.ntmps49
  go_upto_region 4 with (first | ((with_reducible refine gate_dst (N := 4) rfl ?_); refine bxe (N := 4) (cs := #[.int .i64 a0_0, .int .i64 a0_1]) (t := 23) ?_; intro gb714 hg w8 hbox hb; have BK714 := Aside0.mk (hbox); have GW714 : Aside0 (w.heap.size ≤ gb714) := gwx hg; have GE714 : Aside0 (w.heap.size ≤ gb714) := gwx hg; replace HB := Aside0.mk (below_step blx hb); clear hb hbox hg) | ((with_reducible refine gate_dst (N := 8) rfl ?_); refine bxe (N := 8) (cs := #[.int .i64 0, .int .i64 0]) (t := 23) ?_; intro gb715 hg w9 hbox hb; have BK715 := Aside0.mk (hbox); have GW715 : Aside0 (w.heap.size ≤ gb715) := gwx hg; have GE715 : Aside0 (w.heap.size ≤ gb715) := gwx hg; replace HB := Aside0.mk (below_step blx hb); have NB714_715 := nbl BK714 hg; have NB715_714 := nbg BK714 hg; replace BK714 := bkq BK714 hb; clear hb hbox hg; have hnb10 := NB714_715.out; have hnc10 := NB715_714.out; obtain ⟨hcz11_0, hcz11_1, hfz11_0, hfz11_1⟩ := c2_ BK714) | ((with_reducible refine gate_dst (N := 23) rfl ?_); refine Kd.R_lit k23 _ 23 ?hg (N := 23) ?hd (xs := ([(⟨a0_0, a0_1⟩ : S23)] : List (S23))) (inner := [.int .i64 a0_0, .int .i64 a0_1]) (ok := fun _ => True) (okp := fun _ => True) ?hr ?hp (fun _ hk => hk) trivial (Below.refl _ _) (Nat.le_refl _) (by simp) ?_; (case hd => rfl); (case hg => rfl); (case hr => first | (go_simp; done) | (go_simp; rfl)); (case hp => exact (Reps.c2 (show Kd.M k23 _ _ _ (⟨a0_0, a0_1⟩ : S23) [.int .i64 a0_0, .int .i64 a0_1] from (k23_mkM _ _ _ (⟨a0_0, a0_1⟩ : S23) )) (Reps.none _ _))); intro v717 w12 ho13 hb hg_ hnew_; clear hg_ hnew_; (first | rw [← Ny716.out] at ho13 | (simp only [Int.reduceToNat] at ho13; rw [← Ny716.out] at ho13)); have HO718 := Aside0.mk (Kd.R_lower (Kd.R_newB (Kd.R_newB ho13 (g := gb714) (o := .cells #[.int .i64 a0_0, .int .i64 a0_1] 23 (0, 0)) bkx) (g := gb715) (o := .cells #[.int .i64 0, .int .i64 0] 23 (0, 0)) bkx) (below_size blx)); replace BK714 := bkq BK714 hb; replace BK715 := bkq BK715 hb; replace HB := Aside0.mk (below_step blx hb); clear hb ho13; obtain ⟨Ao14, co14, eo14⟩ := Kd.R_slice HO718.out; subst eo14) | ((with_reducible refine gate_callee (f := 65) rfl ?_); refine goesL_ (some 24) rfl rfl Tryd.func65 (by kernel_rfl) rfl #[.slice Ao14 y716.length co14] rfl agx ?_; (with_reducible refine (money_seen.calls k _ _ y716 t719 t720 true _ ?side1 ?side2 A5.out (by first | exact HG0.out | exact Kd.C_below HG0.out blx)).mono ?_); (case side1 => exact crx HO718); (case side2 => exact (Kd.R_reads' HO718.out).2.1); rintro e w15 ⟨rfl, hb⟩; refine ⟨_, rfl, ?_⟩; replace HO718 := hoq HO718 hb; replace BK714 := bkq BK714 hb; replace BK715 := bkq BK715 hb; replace HB := Aside0.mk (below_step blx hb); (try clear hb); (try clear hb2); (try clear hk); (try clear hi)) | ((with_reducible refine gate_dst (N := 9) rfl ?_); refine bxe (N := 9) (cs := #[.int .i64 0, .int .i64 0]) (t := 23) ?_; intro gb722 hg w16 hbox hb; replace HO718 := Aside0.mk (Kd.R_below (Kd.R_elderB (by (with_reducible repeat (first | apply Kd.R_alloc | apply Kd.R_drewN | apply Kd.R_drew)); exact HO718.out) gb722 (Nat.le_of_eq hg.symm)) hb); have BK722 := Aside0.mk (hbox); have GW722 : Aside0 (w.heap.size ≤ gb722) := gwx hg; have GE722 : Aside0 (w.heap.size ≤ gb722) := gwx hg; replace HB := Aside0.mk (below_step blx hb); have NB714_722 := nbl BK714 hg; have NB722_714 := nbg BK714 hg; replace BK714 := bkq BK714 hb; have NB715_722 := nbl BK715 hg; have NB722_715 := nbg BK715 hg; replace BK715 := bkq BK715 hb; clear hb hbox hg; have hnb17 := NB722_714.out; have hnc17 := NB714_722.out; have hnb18 := NB722_715.out; have hnc18 := NB715_722.out; obtain ⟨hcz19_0, hcz19_1, hfz19_0, hfz19_1⟩ := c2_ BK722))
  (try simp only [Act.put, List.setIfInBounds_toArray, List.set_cons_zero, List.set_cons_succ])
  go_cut [53] (fun v53 wc => ∃ (kq : Nat) (x53_6 : Bool), v53 = .bool x53_6 ∧ Aside0 (money_Scale.j0 kq a1 a2 a3 x53_6 a0_0 a0_1 = some (r1, r2)) ∧ Aside0 (kq ≤ k) ∧ Aside0 (wc.heap[gb714]? = some (.cells #[.int .i64 a0_0, .int .i64 a0_1] 23 (0, 0))) ∧ Aside0 (wc.heap[gb715]? = some (.cells #[.int .i64 0, .int .i64 0] 23 (0, 0))) ∧ Aside0 (wc.heap[gb722]? = some (.cells #[.int .i64 t719, .int .i64 t720] 23 (0, 0))) ∧ Aside0 (Below w.heap.size w wc))
  case first =>
   have H := HC7.out
   clear HC7
   by_cases c20 : a0_0 = 1
   ·rw [if_pos c20] at H
    have c20b0 : (a0_0 == 1) = true := beq_iff_eq.mpr c20
    have c20b1 : (a0_0 != 1) = false := bne_eq_false_iff_eq.mpr c20
    clear c20
    (first | rw [c20b0] | (simp only [i64_w, i32_w]; rw [c20b0]) | skip)
    by_cases c21 : a1 < (-1000000000)
    ·rw [if_pos c21] at H
     have c21b0 : decide (a1 < (-1000000000)) = true := decide_eq_true c21
     clear c21
     have H' := Aside0.mk H
     clear H
     have hnb22 := NB714_715.out
     have hnc22 := NB715_714.out
     have hnb23 := NB714_722.out
     have hnc23 := NB722_714.out
     obtain ⟨hcz24_0, hcz24_1, hfz24_0, hfz24_1⟩ := c2_ BK714
     go_wp2
     go_meet
     case rel => exact ⟨_, (true), (by first | rfl | (simp; done) | (simp [*]; done)), H', ⟨by first | omega | exact Nat.le_refl _⟩, ⟨bkx⟩, ⟨bkx⟩, ⟨by (with_reducible repeat (first | refine blk_drewN ?_ _ | refine blk_drew ?_ | refine blk_alloc ?_ _)); refine blk_put (cs := #[.int .i64 t719, .int .i64 0]) ?_ 1 _ rfl; (with_reducible repeat (first | refine blk_drewN ?_ _ | refine blk_drew ?_ | refine blk_alloc ?_ _)); refine blk_put (cs := #[.int .i64 0, .int .i64 0]) ?_ 0 _ rfl; (with_reducible repeat (first | refine blk_drewN ?_ _ | refine blk_drew ?_ | refine blk_alloc ?_ _)); exact BK722.out⟩, ⟨blx⟩⟩
    ·rw [if_neg c21] at H
     have c21b0 : decide (a1 < (-1000000000)) = false := decide_eq_false c21
     clear c21
     by_cases c25 : a1 > 1000000000
     ·rw [if_pos c25] at H
      have c25b0 : decide (1000000000 < a1) = true := decide_eq_true c25
      clear c25
      have H' := Aside0.mk H
      clear H
      have hnb26 := NB714_715.out
      have hnc26 := NB715_714.out
      have hnb27 := NB714_722.out
      have hnc27 := NB722_714.out
      obtain ⟨hcz28_0, hcz28_1, hfz28_0, hfz28_1⟩ := c2_ BK714
      go_wp2
      go_meet
      case rel => exact ⟨_, (true), (by first | rfl | (simp; done) | (simp [*]; done)), H', ⟨by first | omega | exact Nat.le_refl _⟩, ⟨bkx⟩, ⟨bkx⟩, ⟨by (with_reducible repeat (first | refine blk_drewN ?_ _ | refine blk_drew ?_ | refine blk_alloc ?_ _)); refine blk_put (cs := #[.int .i64 t719, .int .i64 0]) ?_ 1 _ rfl; (with_reducible repeat (first | refine blk_drewN ?_ _ | refine blk_drew ?_ | refine blk_alloc ?_ _)); refine blk_put (cs := #[.int .i64 0, .int .i64 0]) ?_ 0 _ rfl; (with_reducible repeat (first | refine blk_drewN ?_ _ | refine blk_drew ?_ | refine blk_alloc ?_ _)); exact BK722.out⟩, ⟨blx⟩⟩
     ·rw [if_neg c25] at H
      have c25b0 : decide (1000000000 < a1) = false := decide_eq_false c25
      clear c25
      by_cases c29 : a2 < 1
      ·rw [if_pos c29] at H
       have c29b0 : decide (a2 < 1) = true := decide_eq_true c29
       clear c29
       have H' := Aside0.mk H
       clear H
       have hnb30 := NB714_715.out
       have hnc30 := NB715_714.out
       have hnb31 := NB714_722.out
       have hnc31 := NB722_714.out
       obtain ⟨hcz32_0, hcz32_1, hfz32_0, hfz32_1⟩ := c2_ BK714
       go_wp2
       go_meet
       case rel => exact ⟨_, (true), (by first | rfl | (simp; done) | (simp [*]; done)), H', ⟨by first | omega | exact Nat.le_refl _⟩, ⟨bkx⟩, ⟨bkx⟩, ⟨by (with_reducible repeat (first | refine blk_drewN ?_ _ | refine blk_drew ?_ | refine blk_alloc ?_ _)); refine blk_put (cs := #[.int .i64 t719, .int .i64 0]) ?_ 1 _ rfl; (with_reducible repeat (first | refine blk_drewN ?_ _ | refine blk_drew ?_ | refine blk_alloc ?_ _)); refine blk_put (cs := #[.int .i64 0, .int .i64 0]) ?_ 0 _ rfl; (with_reducible repeat (first | refine blk_drewN ?_ _ | refine blk_drew ?_ | refine blk_alloc ?_ _)); exact BK722.out⟩, ⟨blx⟩⟩
      ·rw [if_neg c29] at H
       have c29b0 : decide (a2 < 1) = false := decide_eq_false c29
       clear c29
       by_cases c33 : a2 > 1000000000
       ·rw [if_pos c33] at H
        have c33b0 : decide (1000000000 < a2) = true := decide_eq_true c33
        clear c33
        have H' := Aside0.mk H
        clear H
        have hnb34 := NB714_715.out
        have hnc34 := NB715_714.out
        have hnb35 := NB714_722.out
        have hnc35 := NB722_714.out
        obtain ⟨hcz36_0, hcz36_1, hfz36_0, hfz36_1⟩ := c2_ BK714
        go_wp2
        go_meet
        case rel => exact ⟨_, (true), (by first | rfl | (simp; done) | (simp [*]; done)), H', ⟨by first | omega | exact Nat.le_refl _⟩, ⟨bkx⟩, ⟨bkx⟩, ⟨by (with_reducible repeat (first | refine blk_drewN ?_ _ | refine blk_drew ?_ | refine blk_alloc ?_ _)); refine blk_put (cs := #[.int .i64 t719, .int .i64 0]) ?_ 1 _ rfl; (with_reducible repeat (first | refine blk_drewN ?_ _ | refine blk_drew ?_ | refine blk_alloc ?_ _)); refine blk_put (cs := #[.int .i64 0, .int .i64 0]) ?_ 0 _ rfl; (with_reducible repeat (first | refine blk_drewN ?_ _ | refine blk_drew ?_ | refine blk_alloc ?_ _)); exact BK722.out⟩, ⟨blx⟩⟩
       ·rw [if_neg c33] at H
        have c33b0 : decide (1000000000 < a2) = false := decide_eq_false c33
        clear c33
        replace H := Option.bind_eq_some_iff.mp H
        obtain ⟨t723, A370, H⟩ := H
        replace H : (money_Scale.j0 k a1 a2 a3 (!t723) a0_0 a0_1) = some (r1, r2) := H
        have A37 := Aside0.mk A370
        clear A370
        have H' := Aside0.mk H
        clear H
        have hnb38 := NB714_715.out
        have hnc38 := NB715_714.out
        have hnb39 := NB714_722.out
        have hnc39 := NB722_714.out
        obtain ⟨hcz40_0, hcz40_1, hfz40_0, hfz40_1⟩ := c2_ BK714
        go_wp2_with (first | (go_at_call 66; (with_reducible refine (money_modes.calls a3 t723 _ A37.out).mono ?_); rintro e w' ⟨rfl, ⟨nd, rfl⟩⟩))
        go_meet
        case rel => exact ⟨_, (!t723), (by first | rfl | (simp; done) | (simp [*]; done)), H', ⟨by first | omega | exact Nat.le_refl _⟩, ⟨bkx⟩, ⟨bkx⟩, ⟨by (with_reducible repeat (first | refine blk_drewN ?_ _ | refine blk_drew ?_ | refine blk_alloc ?_ _)); refine blk_put (cs := #[.int .i64 t719, .int .i64 0]) ?_ 1 _ rfl; (with_reducible repeat (first | refine blk_drewN ?_ _ | refine blk_drew ?_ | refine blk_alloc ?_ _)); refine blk_put (cs := #[.int .i64 0, .int .i64 0]) ?_ 0 _ rfl; (with_reducible repeat (first | refine blk_drewN ?_ _ | refine blk_drew ?_ | refine blk_alloc ?_ _)); exact BK722.out⟩, ⟨blx⟩⟩
   ·rw [if_neg c20] at H
    have c20b0 : (a0_0 == 1) = false := beq_eq_false_iff_ne.mpr c20
    have c20b1 : (a0_0 != 1) = true := bne_iff_ne.mpr c20
    (first | rw [c20b0] | (simp only [i64_w, i32_w]; rw [c20b0]) | skip)
    have H' := Aside0.mk H
    clear H
    have hnb41 := NB714_715.out
    have hnc41 := NB715_714.out
    have hnb42 := NB714_722.out
    have hnc42 := NB722_714.out
    obtain ⟨hcz43_0, hcz43_1, hfz43_0, hfz43_1⟩ := c2_ BK714
    go_wp2
    go_meet
    case rel => exact ⟨_, (true), (by first | rfl | (simp; done) | (simp [*]; done)), H', ⟨by first | omega | exact Nat.le_refl _⟩, ⟨bkx⟩, ⟨bkx⟩, ⟨by (with_reducible repeat (first | refine blk_drewN ?_ _ | refine blk_drew ?_ | refine blk_alloc ?_ _)); refine blk_put (cs := #[.int .i64 t719, .int .i64 0]) ?_ 1 _ rfl; (with_reducible repeat (first | refine blk_drewN ?_ _ | refine blk_drew ?_ | refine blk_alloc ?_ _)); refine blk_put (cs := #[.int .i64 0, .int .i64 0]) ?_ 0 _ rfl; (with_reducible repeat (first | refine blk_drewN ?_ _ | refine blk_drew ?_ | refine blk_alloc ?_ _)); exact BK722.out⟩, ⟨blx⟩⟩
  case rest =>
   clear HC7
   try clear c1
   try clear c2
   try clear p2
   try clear c3
   try clear c4
   try clear c6
   try clear c10
   try clear c17
   try clear c18
   try clear c20
   try clear c20b0
   try clear c20b1
   try clear c21
   try clear c21b0
   try clear c22
   try clear c23
   try clear c25
   try clear c25b0
   try clear c26
   try clear c27
   try clear c29
   try clear c29b0
   try clear c30
   try clear c31
   try clear c33
   try clear c33b0
   try clear c34
   try clear c35
   try clear c38
   try clear c39
   try clear c41
   try clear c42
   try clear hcz11_0
   try clear hcz11_1
   try clear hcz19_0
   try clear hcz19_1
   try clear hcz24_0
   try clear hcz24_1
   try clear hcz28_0
   try clear hcz28_1
   try clear hcz32_0
   try clear hcz32_1
   try clear hcz36_0
   try clear hcz36_1
   try clear hcz40_0
   try clear hcz40_1
   try clear hcz43_0
   try clear hcz43_1
   try clear hfz11_0
   try clear hfz11_1
   try clear hfz19_0
   try clear hfz19_1
   try clear hfz24_0
   try clear hfz24_1
   try clear hfz28_0
   try clear hfz28_1
   try clear hfz32_0
   try clear hfz32_1
   try clear hfz36_0
   try clear hfz36_1
   try clear hfz40_0
   try clear hfz40_1
   try clear hfz43_0
   try clear hfz43_1
   obtain ⟨kq, x53_6, rfl, HA, HJ6, BK714, BK715, BK722, HB⟩ := hcut
   cases kq with
   | zero => exact absurd HA.out (by simp [money_Scale.j0])
   | succ kj6 =>
    have H := HA.out
    clear HA
    simp only [money_Scale.j0] at H
    by_cases c44 : x53_6 = true
    ·subst c44
     have H1 : ((money_fault.f 5).bind fun bt724 => (some (bt724.1, bt724.2))) = some (r1, r2) := by rw [if_pos rfl] at H; exact H
     clear H
     have H := H1
     clear H1
     replace H := Option.bind_eq_some_iff.mp H
     obtain ⟨⟨t724, t725⟩, A450, H⟩ := H
     replace H : (some (t724, t725)) = some (r1, r2) := H
     have A45 := Aside0.mk A450
     clear A450
     simp only [Option.some.injEq, Prod.mk.injEq] at H
     obtain ⟨rfl, rfl⟩ := H
     go_wp2_with (first | ((with_reducible refine gate_callee (f := 59) rfl ?_); refine goesL_ (some 54) rfl rfl Tryd.func59 (by kernel_rfl) rfl #[.int .i64 5] rfl agx ?_; (with_reducible refine (money_fault.calls 5 t724 t725 _ A45.out).mono ?_); rintro e w46 ⟨rfl, hb⟩; refine ⟨_, rfl, ?_⟩; replace BK714 := bkq BK714 hb; replace BK715 := bkq BK715 hb; replace BK722 := bkq BK722 hb; replace HB := Aside0.mk (below_step blx hb); (try clear hb); (try clear hb2); (try clear hk); (try clear hi); have hnb47 := NB715_714.out; have hnc47 := NB714_715.out; have hnb48 := NB715_722.out; have hnc48 := NB722_715.out; obtain ⟨hcz49_0, hcz49_1, hfz49_0, hfz49_1⟩ := c2_ BK715))
     refine bodyPost_ret (results_cell_row rfl _ _ gb715 23 #[.int .i64 t724, .int .i64 t725] (0, 0) _ rfl (by (with_reducible repeat (first | refine blk_drewN ?_ _ | refine blk_drew ?_ | refine blk_alloc ?_ _)); refine blk_put (cs := #[.int .i64 t724, .int .i64 0]) ?_ 1 _ rfl; (with_reducible repeat (first | refine blk_drewN ?_ _ | refine blk_drew ?_ | refine blk_alloc ?_ _)); refine blk_put (cs := #[.int .i64 0, .int .i64 0]) ?_ 0 _ rfl; (with_reducible repeat (first | refine blk_drewN ?_ _ | refine blk_drew ?_ | refine blk_alloc ?_ _)); exact BK715.out) Tryd.underlying23 rfl (by kernel_rfl)) rfl ?_
     exact ⟨by first | rfl | (simp [errW_none, errW_some] <;> rfl) | (simp [*, errW_none, errW_some] <;> rfl), blx⟩
    ·replace c44 := Bool.eq_false_iff.mpr c44
     subst c44
     have H1 : ((money_amount.f a0_1).bind fun bt726 => ((money_amount.f a1).bind fun bt728 => ((bits_Mul64.f bt726.1 bt728.1).bind fun bt730 => (if bt730.1 ≥ (IntKind.u64.wrap (a2)) then ((money_fault.f 1).bind fun bt732 => (some (bt732.1, bt732.2))) else ((bits_Div64.f kj6 bt730.1 bt730.2 (IntKind.u64.wrap (a2))).bind fun bt734 => ((money_rounded.f kj6 bt734.1 bt734.2 (IntKind.u64.wrap (a2)) (bt726.2 != bt728.2) a3).bind fun bt736 => (if bt736.2 = true then ((money_cents.f bt736.1).bind fun bt738 => (some (bt738.1, bt738.2))) else ((money_fault.f 1).bind fun bt740 => (some (bt740.1, bt740.2)))))))))) = some (r1, r2) := by rw [if_neg (show ¬ (false = true) by decide)] at H; exact H
     clear H
     have H := H1
     clear H1
     replace H := Option.bind_eq_some_iff.mp H
     obtain ⟨⟨t726, t727⟩, A500, H⟩ := H
     replace H : ((money_amount.f a1).bind fun bt728 => ((bits_Mul64.f t726 bt728.1).bind fun bt730 => (if bt730.1 ≥ (IntKind.u64.wrap (a2)) then ((money_fault.f 1).bind fun bt732 => (some (bt732.1, bt732.2))) else ((bits_Div64.f kj6 bt730.1 bt730.2 (IntKind.u64.wrap (a2))).bind fun bt734 => ((money_rounded.f kj6 bt734.1 bt734.2 (IntKind.u64.wrap (a2)) (t727 != bt728.2) a3).bind fun bt736 => (if bt736.2 = true then ((money_cents.f bt736.1).bind fun bt738 => (some (bt738.1, bt738.2))) else ((money_fault.f 1).bind fun bt740 => (some (bt740.1, bt740.2))))))))) = some (r1, r2) := H
     have A50 := Aside0.mk A500
     clear A500
     replace H := Option.bind_eq_some_iff.mp H
     obtain ⟨⟨t728, t729⟩, A510, H⟩ := H
     replace H : ((bits_Mul64.f t726 t728).bind fun bt730 => (if bt730.1 ≥ (IntKind.u64.wrap (a2)) then ((money_fault.f 1).bind fun bt732 => (some (bt732.1, bt732.2))) else ((bits_Div64.f kj6 bt730.1 bt730.2 (IntKind.u64.wrap (a2))).bind fun bt734 => ((money_rounded.f kj6 bt734.1 bt734.2 (IntKind.u64.wrap (a2)) (t727 != t729) a3).bind fun bt736 => (if bt736.2 = true then ((money_cents.f bt736.1).bind fun bt738 => (some (bt738.1, bt738.2))) else ((money_fault.f 1).bind fun bt740 => (some (bt740.1, bt740.2)))))))) = some (r1, r2) := H
     have A51 := Aside0.mk A510
     clear A510
     replace H := Option.bind_eq_some_iff.mp H
     obtain ⟨⟨t730, t731⟩, A520, H⟩ := H
     replace H : (if t730 ≥ (IntKind.u64.wrap (a2)) then ((money_fault.f 1).bind fun bt732 => (some (bt732.1, bt732.2))) else ((bits_Div64.f kj6 t730 t731 (IntKind.u64.wrap (a2))).bind fun bt734 => ((money_rounded.f kj6 bt734.1 bt734.2 (IntKind.u64.wrap (a2)) (t727 != t729) a3).bind fun bt736 => (if bt736.2 = true then ((money_cents.f bt736.1).bind fun bt738 => (some (bt738.1, bt738.2))) else ((money_fault.f 1).bind fun bt740 => (some (bt740.1, bt740.2))))))) = some (r1, r2) := H
     have A52 := Aside0.mk A520
     clear A520
     by_cases c53 : t730 ≥ (IntKind.u64.wrap (a2))
     ·rw [if_pos c53] at H
      have c53b0 : decide ((IntKind.u64.wrap (a2)) ≤ t730) = true := decide_eq_true c53
      clear c53
      replace H := Option.bind_eq_some_iff.mp H
      obtain ⟨⟨t732, t733⟩, A540, H⟩ := H
      replace H : (some (t732, t733)) = some (r1, r2) := H
      have A54 := Aside0.mk A540
      clear A540
      simp only [Option.some.injEq, Prod.mk.injEq] at H
      obtain ⟨rfl, rfl⟩ := H
      have hnb55 := NB714_715.out
      have hnc55 := NB715_714.out
      have hnb56 := NB714_722.out
      have hnc56 := NB722_714.out
      obtain ⟨hcz57_0, hcz57_1, hfz57_0, hfz57_1⟩ := c2_ BK714
      go_wp2_with (first | ((with_reducible refine gate_callee (f := 67) rfl ?_); refine goesL_ (some 58) rfl rfl Tryd.func67 (by kernel_rfl) rfl #[.int .i64 a0_1] rfl agx ?_; (with_reducible refine (money_amount.calls a0_1 t726 t727 _ A50.out).mono ?_); rintro e w' ⟨rfl, ⟨nd, rfl⟩⟩; refine ⟨_, rfl, ?_⟩; (try (rw [drewN_self wc]; generalize hq_ : World.drewN wc _ = wc; have n0_ : Aside0 (wc.heap[gb714]? = some (.cells #[.int .i64 a0_0, .int .i64 a0_1] 23 (0, 0))) := ⟨by rw [← hq_]; exact bkx⟩; have n1_ : Aside0 (wc.heap[gb715]? = some (.cells #[.int .i64 0, .int .i64 0] 23 (0, 0))) := ⟨by rw [← hq_]; exact bkx⟩; have n2_ : Aside0 (wc.heap[gb722]? = some (.cells #[.int .i64 t719, .int .i64 t720] 23 (0, 0))) := ⟨by rw [← hq_]; exact bkx⟩; have n3_ : Aside0 (Below w.heap.size w wc) := ⟨by rw [← hq_]; exact blx⟩; clear BK714 BK715 BK722 HB hq_; have BK714 := n0_; have BK715 := n1_; have BK722 := n2_; have HB := n3_; clear n0_ n1_ n2_ n3_))) | ((with_reducible refine gate_callee (f := 67) rfl ?_); refine goesL_ (some 63) rfl rfl Tryd.func67 (by kernel_rfl) rfl #[.int .i64 a1] rfl agx ?_; (with_reducible refine (money_amount.calls a1 t728 t729 _ A51.out).mono ?_); rintro e w' ⟨rfl, ⟨nd, rfl⟩⟩; refine ⟨_, rfl, ?_⟩; (try (rw [drewN_self wc]; generalize hq_ : World.drewN wc _ = wc; have n0_ : Aside0 (wc.heap[gb714]? = some (.cells #[.int .i64 a0_0, .int .i64 a0_1] 23 (0, 0))) := ⟨by rw [← hq_]; exact bkx⟩; have n1_ : Aside0 (wc.heap[gb715]? = some (.cells #[.int .i64 0, .int .i64 0] 23 (0, 0))) := ⟨by rw [← hq_]; exact bkx⟩; have n2_ : Aside0 (wc.heap[gb722]? = some (.cells #[.int .i64 t719, .int .i64 t720] 23 (0, 0))) := ⟨by rw [← hq_]; exact bkx⟩; have n3_ : Aside0 (Below w.heap.size w wc) := ⟨by rw [← hq_]; exact blx⟩; clear BK714 BK715 BK722 HB hq_; have BK714 := n0_; have BK715 := n1_; have BK722 := n2_; have HB := n3_; clear n0_ n1_ n2_ n3_))) | ((with_reducible refine gate_callee (f := 75) rfl ?_); refine goesL_ (some 69) rfl rfl Tryd.func75 (by kernel_rfl) rfl #[.int .u64 t726, .int .u64 t728] rfl agx ?_; (with_reducible refine (bits_Mul64.calls t726 t728 t730 t731 _ A52.out).mono ?_); rintro e w' ⟨rfl, ⟨nd, rfl⟩⟩; refine ⟨_, rfl, ?_⟩; (try (rw [drewN_self wc]; generalize hq_ : World.drewN wc _ = wc; have n0_ : Aside0 (wc.heap[gb714]? = some (.cells #[.int .i64 a0_0, .int .i64 a0_1] 23 (0, 0))) := ⟨by rw [← hq_]; exact bkx⟩; have n1_ : Aside0 (wc.heap[gb715]? = some (.cells #[.int .i64 0, .int .i64 0] 23 (0, 0))) := ⟨by rw [← hq_]; exact bkx⟩; have n2_ : Aside0 (wc.heap[gb722]? = some (.cells #[.int .i64 t719, .int .i64 t720] 23 (0, 0))) := ⟨by rw [← hq_]; exact bkx⟩; have n3_ : Aside0 (Below w.heap.size w wc) := ⟨by rw [← hq_]; exact blx⟩; clear BK714 BK715 BK722 HB hq_; have BK714 := n0_; have BK715 := n1_; have BK722 := n2_; have HB := n3_; clear n0_ n1_ n2_ n3_))) | ((with_reducible refine gate_callee (f := 59) rfl ?_); refine goesL_ (some 76) rfl rfl Tryd.func59 (by kernel_rfl) rfl #[.int .i64 1] rfl agx ?_; (with_reducible refine (money_fault.calls 1 t732 t733 _ A54.out).mono ?_); rintro e w58 ⟨rfl, hb⟩; refine ⟨_, rfl, ?_⟩; replace BK714 := bkq BK714 hb; replace BK715 := bkq BK715 hb; replace BK722 := bkq BK722 hb; replace HB := Aside0.mk (below_step blx hb); (try clear hb); (try clear hb2); (try clear hk); (try clear hi); have hnb59 := NB715_722.out; have hnc59 := NB722_715.out; obtain ⟨hcz60_0, hcz60_1, hfz60_0, hfz60_1⟩ := c2_ BK715))
      refine bodyPost_ret (results_cell_row rfl _ _ gb715 23 #[.int .i64 t732, .int .i64 t733] (0, 0) _ rfl (by (with_reducible repeat (first | refine blk_drewN ?_ _ | refine blk_drew ?_ | refine blk_alloc ?_ _)); refine blk_put (cs := #[.int .i64 t732, .int .i64 0]) ?_ 1 _ rfl; (with_reducible repeat (first | refine blk_drewN ?_ _ | refine blk_drew ?_ | refine blk_alloc ?_ _)); refine blk_put (cs := #[.int .i64 0, .int .i64 0]) ?_ 0 _ rfl; (with_reducible repeat (first | refine blk_drewN ?_ _ | refine blk_drew ?_ | refine blk_alloc ?_ _)); exact BK715.out) Tryd.underlying23 rfl (by kernel_rfl)) rfl ?_
      exact ⟨by first | rfl | (simp [errW_none, errW_some] <;> rfl) | (simp [*, errW_none, errW_some] <;> rfl), blx⟩
     ·rw [if_neg c53] at H
      have c53b0 : decide ((IntKind.u64.wrap (a2)) ≤ t730) = false := decide_eq_false c53
      clear c53
      replace H := Option.bind_eq_some_iff.mp H
      obtain ⟨⟨t734, t735⟩, A610, H⟩ := H
      replace H : ((money_rounded.f kj6 t734 t735 (IntKind.u64.wrap (a2)) (t727 != t729) a3).bind fun bt736 => (if bt736.2 = true then ((money_cents.f bt736.1).bind fun bt738 => (some (bt738.1, bt738.2))) else ((money_fault.f 1).bind fun bt740 => (some (bt740.1, bt740.2))))) = some (r1, r2) := H
      have A61 := Aside0.mk A610
      clear A610
      replace H := Option.bind_eq_some_iff.mp H
      obtain ⟨⟨t736, t737⟩, A620, H⟩ := H
      replace H : (if t737 = true then ((money_cents.f t736).bind fun bt738 => (some (bt738.1, bt738.2))) else ((money_fault.f 1).bind fun bt740 => (some (bt740.1, bt740.2)))) = some (r1, r2) := H
      have A62 := Aside0.mk A620
      clear A620
      by_cases c63 : t737 = true
      ·subst c63
       have H1 : ((money_cents.f t736).bind fun bt738 => (some (bt738.1, bt738.2))) = some (r1, r2) := by rw [if_pos rfl] at H; exact H
       clear H
       have H := H1
       clear H1
       replace H := Option.bind_eq_some_iff.mp H
       obtain ⟨⟨t738, t739⟩, A640, H⟩ := H
       replace H : (some (t738, t739)) = some (r1, r2) := H
       have A64 := Aside0.mk A640
       clear A640
       simp only [Option.some.injEq, Prod.mk.injEq] at H
       obtain ⟨rfl, rfl⟩ := H
       have hnb65 := NB714_715.out
       have hnc65 := NB715_714.out
       have hnb66 := NB714_722.out
       have hnc66 := NB722_714.out
       obtain ⟨hcz67_0, hcz67_1, hfz67_0, hfz67_1⟩ := c2_ BK714
       go_wp2_with (first | ((with_reducible refine gate_callee (f := 67) rfl ?_); refine goesL_ (some 58) rfl rfl Tryd.func67 (by kernel_rfl) rfl #[.int .i64 a0_1] rfl agx ?_; (with_reducible refine (money_amount.calls a0_1 t726 t727 _ A50.out).mono ?_); rintro e w' ⟨rfl, ⟨nd, rfl⟩⟩; refine ⟨_, rfl, ?_⟩; (try (rw [drewN_self wc]; generalize hq_ : World.drewN wc _ = wc; have n0_ : Aside0 (wc.heap[gb714]? = some (.cells #[.int .i64 a0_0, .int .i64 a0_1] 23 (0, 0))) := ⟨by rw [← hq_]; exact bkx⟩; have n1_ : Aside0 (wc.heap[gb715]? = some (.cells #[.int .i64 0, .int .i64 0] 23 (0, 0))) := ⟨by rw [← hq_]; exact bkx⟩; have n2_ : Aside0 (wc.heap[gb722]? = some (.cells #[.int .i64 t719, .int .i64 t720] 23 (0, 0))) := ⟨by rw [← hq_]; exact bkx⟩; have n3_ : Aside0 (Below w.heap.size w wc) := ⟨by rw [← hq_]; exact blx⟩; clear BK714 BK715 BK722 HB hq_; have BK714 := n0_; have BK715 := n1_; have BK722 := n2_; have HB := n3_; clear n0_ n1_ n2_ n3_))) | ((with_reducible refine gate_callee (f := 67) rfl ?_); refine goesL_ (some 63) rfl rfl Tryd.func67 (by kernel_rfl) rfl #[.int .i64 a1] rfl agx ?_; (with_reducible refine (money_amount.calls a1 t728 t729 _ A51.out).mono ?_); rintro e w' ⟨rfl, ⟨nd, rfl⟩⟩; refine ⟨_, rfl, ?_⟩; (try (rw [drewN_self wc]; generalize hq_ : World.drewN wc _ = wc; have n0_ : Aside0 (wc.heap[gb714]? = some (.cells #[.int .i64 a0_0, .int .i64 a0_1] 23 (0, 0))) := ⟨by rw [← hq_]; exact bkx⟩; have n1_ : Aside0 (wc.heap[gb715]? = some (.cells #[.int .i64 0, .int .i64 0] 23 (0, 0))) := ⟨by rw [← hq_]; exact bkx⟩; have n2_ : Aside0 (wc.heap[gb722]? = some (.cells #[.int .i64 t719, .int .i64 t720] 23 (0, 0))) := ⟨by rw [← hq_]; exact bkx⟩; have n3_ : Aside0 (Below w.heap.size w wc) := ⟨by rw [← hq_]; exact blx⟩; clear BK714 BK715 BK722 HB hq_; have BK714 := n0_; have BK715 := n1_; have BK722 := n2_; have HB := n3_; clear n0_ n1_ n2_ n3_))) | ((with_reducible refine gate_callee (f := 75) rfl ?_); refine goesL_ (some 69) rfl rfl Tryd.func75 (by kernel_rfl) rfl #[.int .u64 t726, .int .u64 t728] rfl agx ?_; (with_reducible refine (bits_Mul64.calls t726 t728 t730 t731 _ A52.out).mono ?_); rintro e w' ⟨rfl, ⟨nd, rfl⟩⟩; refine ⟨_, rfl, ?_⟩; (try (rw [drewN_self wc]; generalize hq_ : World.drewN wc _ = wc; have n0_ : Aside0 (wc.heap[gb714]? = some (.cells #[.int .i64 a0_0, .int .i64 a0_1] 23 (0, 0))) := ⟨by rw [← hq_]; exact bkx⟩; have n1_ : Aside0 (wc.heap[gb715]? = some (.cells #[.int .i64 0, .int .i64 0] 23 (0, 0))) := ⟨by rw [← hq_]; exact bkx⟩; have n2_ : Aside0 (wc.heap[gb722]? = some (.cells #[.int .i64 t719, .int .i64 t720] 23 (0, 0))) := ⟨by rw [← hq_]; exact bkx⟩; have n3_ : Aside0 (Below w.heap.size w wc) := ⟨by rw [← hq_]; exact blx⟩; clear BK714 BK715 BK722 HB hq_; have BK714 := n0_; have BK715 := n1_; have BK722 := n2_; have HB := n3_; clear n0_ n1_ n2_ n3_))) | ((with_reducible refine gate_callee (f := 100) rfl ?_); refine goesL_ (some 82) rfl rfl Tryd.func100 (by kernel_rfl) rfl #[.int .u64 t730, .int .u64 t731, .int .u64 (IntKind.u64.wrap (a2))] rfl agx ?_; (with_reducible refine (bits_Div64.calls kj6 t730 t731 (IntKind.u64.wrap (a2)) t734 t735 _ A61.out).mono ?_); rintro e w' ⟨rfl, ⟨nd, rfl⟩⟩; refine ⟨_, rfl, ?_⟩; (try (rw [drewN_self wc]; generalize hq_ : World.drewN wc _ = wc; have n0_ : Aside0 (wc.heap[gb714]? = some (.cells #[.int .i64 a0_0, .int .i64 a0_1] 23 (0, 0))) := ⟨by rw [← hq_]; exact bkx⟩; have n1_ : Aside0 (wc.heap[gb715]? = some (.cells #[.int .i64 0, .int .i64 0] 23 (0, 0))) := ⟨by rw [← hq_]; exact bkx⟩; have n2_ : Aside0 (wc.heap[gb722]? = some (.cells #[.int .i64 t719, .int .i64 t720] 23 (0, 0))) := ⟨by rw [← hq_]; exact bkx⟩; have n3_ : Aside0 (Below w.heap.size w wc) := ⟨by rw [← hq_]; exact blx⟩; clear BK714 BK715 BK722 HB hq_; have BK714 := n0_; have BK715 := n1_; have BK722 := n2_; have HB := n3_; clear n0_ n1_ n2_ n3_))) | ((with_reducible refine gate_callee (f := 68) rfl ?_); refine goesL_ (some 94) rfl rfl Tryd.func68 (by kernel_rfl) rfl #[.int .u64 t734, .int .u64 t735, .int .u64 (IntKind.u64.wrap (a2)), .bool (t727 != t729), .int .i64 a3] rfl agx ?_; (try rw [show (!(t727 == t729)) = (t727 != t729) from rfl]); (with_reducible refine (money_rounded.calls kj6 t734 t735 (IntKind.u64.wrap (a2)) (t727 != t729) a3 t736 true _ A62.out).mono ?_); rintro e w' ⟨rfl, ⟨nd, rfl⟩⟩; refine ⟨_, rfl, ?_⟩; (try (rw [drewN_self wc]; generalize hq_ : World.drewN wc _ = wc; have n0_ : Aside0 (wc.heap[gb714]? = some (.cells #[.int .i64 a0_0, .int .i64 a0_1] 23 (0, 0))) := ⟨by rw [← hq_]; exact bkx⟩; have n1_ : Aside0 (wc.heap[gb715]? = some (.cells #[.int .i64 0, .int .i64 0] 23 (0, 0))) := ⟨by rw [← hq_]; exact bkx⟩; have n2_ : Aside0 (wc.heap[gb722]? = some (.cells #[.int .i64 t719, .int .i64 t720] 23 (0, 0))) := ⟨by rw [← hq_]; exact bkx⟩; have n3_ : Aside0 (Below w.heap.size w wc) := ⟨by rw [← hq_]; exact blx⟩; clear BK714 BK715 BK722 HB hq_; have BK714 := n0_; have BK715 := n1_; have BK722 := n2_; have HB := n3_; clear n0_ n1_ n2_ n3_))) | ((with_reducible refine gate_callee (f := 69) rfl ?_); refine goesL_ (some 101) rfl rfl Tryd.func69 (by kernel_rfl) rfl #[.int .i64 t736] rfl agx ?_; (with_reducible refine (money_cents.calls t736 t738 t739 _ A64.out (by first | exact HG0.out | exact Kd.C_below HG0.out blx)).mono ?_); rintro e w68 ⟨rfl, hb⟩; refine ⟨_, rfl, ?_⟩; replace BK714 := bkq BK714 hb; replace BK715 := bkq BK715 hb; replace BK722 := bkq BK722 hb; replace HB := Aside0.mk (below_step blx hb); (try clear hb); (try clear hb2); (try clear hk); (try clear hi); have hnb69 := NB715_722.out; have hnc69 := NB722_715.out; obtain ⟨hcz70_0, hcz70_1, hfz70_0, hfz70_1⟩ := c2_ BK715))
       refine bodyPost_ret (results_cell_row rfl _ _ gb715 23 #[.int .i64 t738, .int .i64 t739] (0, 0) _ rfl (by (with_reducible repeat (first | refine blk_drewN ?_ _ | refine blk_drew ?_ | refine blk_alloc ?_ _)); refine blk_put (cs := #[.int .i64 t738, .int .i64 0]) ?_ 1 _ rfl; (with_reducible repeat (first | refine blk_drewN ?_ _ | refine blk_drew ?_ | refine blk_alloc ?_ _)); refine blk_put (cs := #[.int .i64 0, .int .i64 0]) ?_ 0 _ rfl; (with_reducible repeat (first | refine blk_drewN ?_ _ | refine blk_drew ?_ | refine blk_alloc ?_ _)); exact BK715.out) Tryd.underlying23 rfl (by kernel_rfl)) rfl ?_
       exact ⟨by first | rfl | (simp [errW_none, errW_some] <;> rfl) | (simp [*, errW_none, errW_some] <;> rfl), blx⟩
      ·replace c63 := Bool.eq_false_iff.mpr c63
       subst c63
       have H1 : ((money_fault.f 1).bind fun bt740 => (some (bt740.1, bt740.2))) = some (r1, r2) := by rw [if_neg (show ¬ (false = true) by decide)] at H; exact H
       clear H
       have H := H1
       clear H1
       replace H := Option.bind_eq_some_iff.mp H
       obtain ⟨⟨t740, t741⟩, A710, H⟩ := H
       replace H : (some (t740, t741)) = some (r1, r2) := H
       have A71 := Aside0.mk A710
       clear A710
       simp only [Option.some.injEq, Prod.mk.injEq] at H
       obtain ⟨rfl, rfl⟩ := H
       have hnb72 := NB714_715.out
       have hnc72 := NB715_714.out
       have hnb73 := NB714_722.out
       have hnc73 := NB722_714.out
       obtain ⟨hcz74_0, hcz74_1, hfz74_0, hfz74_1⟩ := c2_ BK714
       go_wp2_with (first | ((with_reducible refine gate_callee (f := 67) rfl ?_); refine goesL_ (some 58) rfl rfl Tryd.func67 (by kernel_rfl) rfl #[.int .i64 a0_1] rfl agx ?_; (with_reducible refine (money_amount.calls a0_1 t726 t727 _ A50.out).mono ?_); rintro e w' ⟨rfl, ⟨nd, rfl⟩⟩; refine ⟨_, rfl, ?_⟩; (try (rw [drewN_self wc]; generalize hq_ : World.drewN wc _ = wc; have n0_ : Aside0 (wc.heap[gb714]? = some (.cells #[.int .i64 a0_0, .int .i64 a0_1] 23 (0, 0))) := ⟨by rw [← hq_]; exact bkx⟩; have n1_ : Aside0 (wc.heap[gb715]? = some (.cells #[.int .i64 0, .int .i64 0] 23 (0, 0))) := ⟨by rw [← hq_]; exact bkx⟩; have n2_ : Aside0 (wc.heap[gb722]? = some (.cells #[.int .i64 t719, .int .i64 t720] 23 (0, 0))) := ⟨by rw [← hq_]; exact bkx⟩; have n3_ : Aside0 (Below w.heap.size w wc) := ⟨by rw [← hq_]; exact blx⟩; clear BK714 BK715 BK722 HB hq_; have BK714 := n0_; have BK715 := n1_; have BK722 := n2_; have HB := n3_; clear n0_ n1_ n2_ n3_))) | ((with_reducible refine gate_callee (f := 67) rfl ?_); refine goesL_ (some 63) rfl rfl Tryd.func67 (by kernel_rfl) rfl #[.int .i64 a1] rfl agx ?_; (with_reducible refine (money_amount.calls a1 t728 t729 _ A51.out).mono ?_); rintro e w' ⟨rfl, ⟨nd, rfl⟩⟩; refine ⟨_, rfl, ?_⟩; (try (rw [drewN_self wc]; generalize hq_ : World.drewN wc _ = wc; have n0_ : Aside0 (wc.heap[gb714]? = some (.cells #[.int .i64 a0_0, .int .i64 a0_1] 23 (0, 0))) := ⟨by rw [← hq_]; exact bkx⟩; have n1_ : Aside0 (wc.heap[gb715]? = some (.cells #[.int .i64 0, .int .i64 0] 23 (0, 0))) := ⟨by rw [← hq_]; exact bkx⟩; have n2_ : Aside0 (wc.heap[gb722]? = some (.cells #[.int .i64 t719, .int .i64 t720] 23 (0, 0))) := ⟨by rw [← hq_]; exact bkx⟩; have n3_ : Aside0 (Below w.heap.size w wc) := ⟨by rw [← hq_]; exact blx⟩; clear BK714 BK715 BK722 HB hq_; have BK714 := n0_; have BK715 := n1_; have BK722 := n2_; have HB := n3_; clear n0_ n1_ n2_ n3_))) | ((with_reducible refine gate_callee (f := 75) rfl ?_); refine goesL_ (some 69) rfl rfl Tryd.func75 (by kernel_rfl) rfl #[.int .u64 t726, .int .u64 t728] rfl agx ?_; (with_reducible refine (bits_Mul64.calls t726 t728 t730 t731 _ A52.out).mono ?_); rintro e w' ⟨rfl, ⟨nd, rfl⟩⟩; refine ⟨_, rfl, ?_⟩; (try (rw [drewN_self wc]; generalize hq_ : World.drewN wc _ = wc; have n0_ : Aside0 (wc.heap[gb714]? = some (.cells #[.int .i64 a0_0, .int .i64 a0_1] 23 (0, 0))) := ⟨by rw [← hq_]; exact bkx⟩; have n1_ : Aside0 (wc.heap[gb715]? = some (.cells #[.int .i64 0, .int .i64 0] 23 (0, 0))) := ⟨by rw [← hq_]; exact bkx⟩; have n2_ : Aside0 (wc.heap[gb722]? = some (.cells #[.int .i64 t719, .int .i64 t720] 23 (0, 0))) := ⟨by rw [← hq_]; exact bkx⟩; have n3_ : Aside0 (Below w.heap.size w wc) := ⟨by rw [← hq_]; exact blx⟩; clear BK714 BK715 BK722 HB hq_; have BK714 := n0_; have BK715 := n1_; have BK722 := n2_; have HB := n3_; clear n0_ n1_ n2_ n3_))) | ((with_reducible refine gate_callee (f := 100) rfl ?_); refine goesL_ (some 82) rfl rfl Tryd.func100 (by kernel_rfl) rfl #[.int .u64 t730, .int .u64 t731, .int .u64 (IntKind.u64.wrap (a2))] rfl agx ?_; (with_reducible refine (bits_Div64.calls kj6 t730 t731 (IntKind.u64.wrap (a2)) t734 t735 _ A61.out).mono ?_); rintro e w' ⟨rfl, ⟨nd, rfl⟩⟩; refine ⟨_, rfl, ?_⟩; (try (rw [drewN_self wc]; generalize hq_ : World.drewN wc _ = wc; have n0_ : Aside0 (wc.heap[gb714]? = some (.cells #[.int .i64 a0_0, .int .i64 a0_1] 23 (0, 0))) := ⟨by rw [← hq_]; exact bkx⟩; have n1_ : Aside0 (wc.heap[gb715]? = some (.cells #[.int .i64 0, .int .i64 0] 23 (0, 0))) := ⟨by rw [← hq_]; exact bkx⟩; have n2_ : Aside0 (wc.heap[gb722]? = some (.cells #[.int .i64 t719, .int .i64 t720] 23 (0, 0))) := ⟨by rw [← hq_]; exact bkx⟩; have n3_ : Aside0 (Below w.heap.size w wc) := ⟨by rw [← hq_]; exact blx⟩; clear BK714 BK715 BK722 HB hq_; have BK714 := n0_; have BK715 := n1_; have BK722 := n2_; have HB := n3_; clear n0_ n1_ n2_ n3_))) | ((with_reducible refine gate_callee (f := 68) rfl ?_); refine goesL_ (some 94) rfl rfl Tryd.func68 (by kernel_rfl) rfl #[.int .u64 t734, .int .u64 t735, .int .u64 (IntKind.u64.wrap (a2)), .bool (t727 != t729), .int .i64 a3] rfl agx ?_; (try rw [show (!(t727 == t729)) = (t727 != t729) from rfl]); (with_reducible refine (money_rounded.calls kj6 t734 t735 (IntKind.u64.wrap (a2)) (t727 != t729) a3 t736 false _ A62.out).mono ?_); rintro e w' ⟨rfl, ⟨nd, rfl⟩⟩; refine ⟨_, rfl, ?_⟩; (try (rw [drewN_self wc]; generalize hq_ : World.drewN wc _ = wc; have n0_ : Aside0 (wc.heap[gb714]? = some (.cells #[.int .i64 a0_0, .int .i64 a0_1] 23 (0, 0))) := ⟨by rw [← hq_]; exact bkx⟩; have n1_ : Aside0 (wc.heap[gb715]? = some (.cells #[.int .i64 0, .int .i64 0] 23 (0, 0))) := ⟨by rw [← hq_]; exact bkx⟩; have n2_ : Aside0 (wc.heap[gb722]? = some (.cells #[.int .i64 t719, .int .i64 t720] 23 (0, 0))) := ⟨by rw [← hq_]; exact bkx⟩; have n3_ : Aside0 (Below w.heap.size w wc) := ⟨by rw [← hq_]; exact blx⟩; clear BK714 BK715 BK722 HB hq_; have BK714 := n0_; have BK715 := n1_; have BK722 := n2_; have HB := n3_; clear n0_ n1_ n2_ n3_))) | ((with_reducible refine gate_callee (f := 59) rfl ?_); refine goesL_ (some 99) rfl rfl Tryd.func59 (by kernel_rfl) rfl #[.int .i64 1] rfl agx ?_; (with_reducible refine (money_fault.calls 1 t740 t741 _ A71.out).mono ?_); rintro e w75 ⟨rfl, hb⟩; refine ⟨_, rfl, ?_⟩; replace BK714 := bkq BK714 hb; replace BK715 := bkq BK715 hb; replace BK722 := bkq BK722 hb; replace HB := Aside0.mk (below_step blx hb); (try clear hb); (try clear hb2); (try clear hk); (try clear hi); have hnb76 := NB715_722.out; have hnc76 := NB722_715.out; obtain ⟨hcz77_0, hcz77_1, hfz77_0, hfz77_1⟩ := c2_ BK715))
       refine bodyPost_ret (results_cell_row rfl _ _ gb715 23 #[.int .i64 t740, .int .i64 t741] (0, 0) _ rfl (by (with_reducible repeat (first | refine blk_drewN ?_ _ | refine blk_drew ?_ | refine blk_alloc ?_ _)); refine blk_put (cs := #[.int .i64 t740, .int .i64 0]) ?_ 1 _ rfl; (with_reducible repeat (first | refine blk_drewN ?_ _ | refine blk_drew ?_ | refine blk_alloc ?_ _)); refine blk_put (cs := #[.int .i64 0, .int .i64 0]) ?_ 0 _ rfl; (with_reducible repeat (first | refine blk_drewN ?_ _ | refine blk_drew ?_ | refine blk_alloc ?_ _)); exact BK715.out) Tryd.underlying23 rfl (by kernel_rfl)) rfl ?_
       exact ⟨by first | rfl | (simp [errW_none, errW_some] <;> rfl) | (simp [*, errW_none, errW_some] <;> rfl), blx⟩
 ·replace c6 := Bool.eq_false_iff.mpr c6
  subst c6
  have H1 : (some (t719, t720)) = some (r1, r2) := by rw [if_neg (show ¬ (false = true) by decide)] at H; exact H
  clear H
  have H := H1
  clear H1
  simp only [Option.some.injEq, Prod.mk.injEq] at H
  obtain ⟨rfl, rfl⟩ := H
  go_enter Tryd.func49, Tryd.ntmps49
  go_wp2_with (first | ((with_reducible refine gate_dst (N := 4) rfl ?_); refine bxe (N := 4) (cs := #[.int .i64 a0_0, .int .i64 a0_1]) (t := 23) ?_; intro gb714 hg w78 hbox hb; have BK714 := Aside0.mk (hbox); have GW714 : Aside0 (w.heap.size ≤ gb714) := gwx hg; have GE714 : Aside0 (w.heap.size ≤ gb714) := gwx hg; replace HB := Aside0.mk (below_step blx hb); clear hb hbox hg) | ((with_reducible refine gate_dst (N := 8) rfl ?_); refine bxe (N := 8) (cs := #[.int .i64 0, .int .i64 0]) (t := 23) ?_; intro gb715 hg w79 hbox hb; have BK715 := Aside0.mk (hbox); have GW715 : Aside0 (w.heap.size ≤ gb715) := gwx hg; have GE715 : Aside0 (w.heap.size ≤ gb715) := gwx hg; replace HB := Aside0.mk (below_step blx hb); have NB714_715 := nbl BK714 hg; have NB715_714 := nbg BK714 hg; replace BK714 := bkq BK714 hb; clear hb hbox hg; have hnb80 := NB714_715.out; have hnc80 := NB715_714.out; obtain ⟨hcz81_0, hcz81_1, hfz81_0, hfz81_1⟩ := c2_ BK714) | ((with_reducible refine gate_dst (N := 23) rfl ?_); refine Kd.R_lit k23 _ 23 ?hg (N := 23) ?hd (xs := ([(⟨a0_0, a0_1⟩ : S23)] : List (S23))) (inner := [.int .i64 a0_0, .int .i64 a0_1]) (ok := fun _ => True) (okp := fun _ => True) ?hr ?hp (fun _ hk => hk) trivial (Below.refl _ _) (Nat.le_refl _) (by simp) ?_; (case hd => rfl); (case hg => rfl); (case hr => first | (go_simp; done) | (go_simp; rfl)); (case hp => exact (Reps.c2 (show Kd.M k23 _ _ _ (⟨a0_0, a0_1⟩ : S23) [.int .i64 a0_0, .int .i64 a0_1] from (k23_mkM _ _ _ (⟨a0_0, a0_1⟩ : S23) )) (Reps.none _ _))); intro v717 w82 ho83 hb hg_ hnew_; clear hg_ hnew_; (first | rw [← Ny716.out] at ho83 | (simp only [Int.reduceToNat] at ho83; rw [← Ny716.out] at ho83)); have HO718 := Aside0.mk (Kd.R_lower (Kd.R_newB (Kd.R_newB ho83 (g := gb714) (o := .cells #[.int .i64 a0_0, .int .i64 a0_1] 23 (0, 0)) bkx) (g := gb715) (o := .cells #[.int .i64 0, .int .i64 0] 23 (0, 0)) bkx) (below_size blx)); replace BK714 := bkq BK714 hb; replace BK715 := bkq BK715 hb; replace HB := Aside0.mk (below_step blx hb); clear hb ho83; obtain ⟨Ao84, co84, eo84⟩ := Kd.R_slice HO718.out; subst eo84) | ((with_reducible refine gate_callee (f := 65) rfl ?_); refine goesL_ (some 24) rfl rfl Tryd.func65 (by kernel_rfl) rfl #[.slice Ao84 y716.length co84] rfl agx ?_; (with_reducible refine (money_seen.calls k _ _ y716 t719 t720 false _ ?side1 ?side2 A5.out (by first | exact HG0.out | exact Kd.C_below HG0.out blx)).mono ?_); (case side1 => exact crx HO718); (case side2 => exact (Kd.R_reads' HO718.out).2.1); rintro e w85 ⟨rfl, hb⟩; refine ⟨_, rfl, ?_⟩; replace HO718 := hoq HO718 hb; replace BK714 := bkq BK714 hb; replace BK715 := bkq BK715 hb; replace HB := Aside0.mk (below_step blx hb); (try clear hb); (try clear hb2); (try clear hk); (try clear hi)) | ((with_reducible refine gate_dst (N := 9) rfl ?_); refine bxe (N := 9) (cs := #[.int .i64 0, .int .i64 0]) (t := 23) ?_; intro gb722 hg w86 hbox hb; replace HO718 := Aside0.mk (Kd.R_below (Kd.R_elderB (by (with_reducible repeat (first | apply Kd.R_alloc | apply Kd.R_drewN | apply Kd.R_drew)); exact HO718.out) gb722 (Nat.le_of_eq hg.symm)) hb); have BK722 := Aside0.mk (hbox); have GW722 : Aside0 (w.heap.size ≤ gb722) := gwx hg; have GE722 : Aside0 (w.heap.size ≤ gb722) := gwx hg; replace HB := Aside0.mk (below_step blx hb); have NB714_722 := nbl BK714 hg; have NB722_714 := nbg BK714 hg; replace BK714 := bkq BK714 hb; have NB715_722 := nbl BK715 hg; have NB722_715 := nbg BK715 hg; replace BK715 := bkq BK715 hb; clear hb hbox hg; have hnb87 := NB722_714.out; have hnc87 := NB714_722.out; have hnb88 := NB722_715.out; have hnc88 := NB715_722.out; obtain ⟨hcz89_0, hcz89_1, hfz89_0, hfz89_1⟩ := c2_ BK722; obtain ⟨hcz90_0, hcz90_1, hfz90_0, hfz90_1⟩ := c2_ BK715))
  refine bodyPost_ret (results_cell_row rfl _ _ gb715 23 #[.int .i64 t719, .int .i64 t720] (0, 0) _ rfl (by (with_reducible repeat (first | refine blk_drewN ?_ _ | refine blk_drew ?_ | refine blk_alloc ?_ _)); refine blk_put (cs := #[.int .i64 t719, .int .i64 0]) ?_ 1 _ rfl; (with_reducible repeat (first | refine blk_drewN ?_ _ | refine blk_drew ?_ | refine blk_alloc ?_ _)); refine blk_put (cs := #[.int .i64 0, .int .i64 0]) ?_ 0 _ rfl; (with_reducible repeat (first | refine blk_drewN ?_ _ | refine blk_drew ?_ | refine blk_alloc ?_ _)); refine blk_far ?_ NB715_722.out _; (with_reducible repeat (first | refine blk_drewN ?_ _ | refine blk_drew ?_ | refine blk_alloc ?_ _)); refine blk_far ?_ NB715_722.out _; (with_reducible repeat (first | refine blk_drewN ?_ _ | refine blk_drew ?_ | refine blk_alloc ?_ _)); exact BK715.out) Tryd.underlying23 rfl (by kernel_rfl)) rfl ?_
  exact ⟨by first | rfl | (simp [errW_none, errW_some] <;> rfl) | (simp [*, errW_none, errW_some] <;> rfl), blx⟩
end Go.Proofs.YtnjhjaifmgjljaaDoor.PM
end

section
namespace Go.Proofs.YtnjhjaifmgjljaaDoor.PM
open Go.RowKit Go.Proofs.YtnjhjaifmgjljaaDoorW.PrintWords Go.Proofs.YtnjhjaifmgjljaaDoorW.PrintLast Go.Proofs.YtnjhjaifmgjljaaDoorW.PrintMore
attribute [local go_sem] max2_int min2_int max_two min_two max_three min_three max_four min_four
set_option linter.unusedVariables false
set_option linter.unusedSimpArgs false
def levyref1_within.f (a0 : Int) (a1 : Int) (a2 : Int) : Option (Bool) := if a0 ≥ a1 then (some (decide (a0 ≤ a2))) else (some false)
set_option maxHeartbeats 8000000 in
set_option maxRecDepth 100000 in
theorem levyref1_within.calls (a0 : Int) (a1 : Int) (a2 : Int) (r : Bool) (w : World) (h : levyref1_within.f a0 a1 a2 = some r) :
  Calls Tryd.prog 56 #[.int .i64 a0, .int .i64 a1, .int .i64 a2] w fun e w' => e = .returned (.bool r) ∧ Drawn0 w w' := by
 have H : (if a0 ≥ a1 then (some (decide (a0 ≤ a2))) else (some false)) = some r := h
 clear h
 by_cases c4 : a0 ≥ a1
 ·rw [if_pos c4] at H
  have c4b0 : decide (a1 ≤ a0) = true := decide_eq_true c4
  clear c4
  obtain rfl := Option.some.inj H
  go_enter Tryd.func56, Tryd.ntmps56
  go_wp2
  go_ret
  exact ⟨by first | rfl | (simp; done) | (simp [*]; done), by repeat (first | exact Drawn0.refl _ | apply Drawn0.step)⟩
 ·rw [if_neg c4] at H
  have c4b0 : decide (a1 ≤ a0) = false := decide_eq_false c4
  clear c4
  obtain rfl := Option.some.inj H
  go_enter Tryd.func56, Tryd.ntmps56
  go_wp2
  go_ret
  exact ⟨by first | rfl | (simp; done) | (simp [*]; done), by repeat (first | exact Drawn0.refl _ | apply Drawn0.step)⟩
end Go.Proofs.YtnjhjaifmgjljaaDoor.PM
end

section
namespace Go.Proofs.YtnjhjaifmgjljaaDoor.PM
open Go.RowKit Go.Proofs.YtnjhjaifmgjljaaDoorW.PrintWords Go.Proofs.YtnjhjaifmgjljaaDoorW.PrintLast Go.Proofs.YtnjhjaifmgjljaaDoorW.PrintMore
attribute [local go_sem] max2_int min2_int max_two min_two max_three min_three max_four min_four
set_option linter.unusedVariables false
set_option linter.unusedSimpArgs false
def levyref1_Valid.f (a0_0 : Int) (a0_1 : Int) : Option (Bool) := if a0_0 = 0 then (some (a0_1 == 0)) else (if a0_0 = 1 then ((levyref1_within.f a0_1 (-9999999999999) 9999999999999).bind fun t105 => (some t105)) else (if a0_0 = 2 then ((levyref1_within.f a0_1 (-1000000000) 1000000000).bind fun t106 => (some t106)) else (if a0_0 = 3 then ((levyref1_within.f a0_1 0 1).bind fun t107 => (some t107)) else (if a0_0 = 4 then ((levyref1_within.f a0_1 0 109572).bind fun t108 => (some t108)) else (if a0_0 = 5 then ((levyref1_within.f a0_1 0 7).bind fun t109 => (some t109)) else (if a0_0 = 6 then ((levyref1_within.f a0_1 1 5).bind fun t110 => (some t110)) else (some false)))))))
set_option maxHeartbeats 8000000 in
set_option maxRecDepth 100000 in
theorem levyref1_Valid.calls (a0_0 : Int) (a0_1 : Int) (r : Bool) (w : World) (h : levyref1_Valid.f a0_0 a0_1 = some r) :
  Calls Tryd.prog 19 #[.agg #[.int .i64 a0_0, .int .i64 a0_1]] w fun e w' => e = .returned (.bool r) ∧ Below w.heap.size w w' := by
 have hu23 := Tryd.underlying23
 have HB := Aside0.mk (Below.refl w.heap.size w)
 have H : (if a0_0 = 0 then (some (a0_1 == 0)) else (if a0_0 = 1 then ((levyref1_within.f a0_1 (-9999999999999) 9999999999999).bind fun t105 => (some t105)) else (if a0_0 = 2 then ((levyref1_within.f a0_1 (-1000000000) 1000000000).bind fun t106 => (some t106)) else (if a0_0 = 3 then ((levyref1_within.f a0_1 0 1).bind fun t107 => (some t107)) else (if a0_0 = 4 then ((levyref1_within.f a0_1 0 109572).bind fun t108 => (some t108)) else (if a0_0 = 5 then ((levyref1_within.f a0_1 0 7).bind fun t109 => (some t109)) else (if a0_0 = 6 then ((levyref1_within.f a0_1 1 5).bind fun t110 => (some t110)) else (some false)))))))) = some r := h
 clear h
 by_cases c2 : a0_0 = 0
 ·rw [if_pos c2] at H
  have c2b0 : (a0_0 == 0) = true := beq_iff_eq.mpr c2
  have c2b1 : (a0_0 != 0) = false := bne_eq_false_iff_eq.mpr c2
  clear c2
  obtain rfl := Option.some.inj H
  go_enter Tryd.func19, Tryd.ntmps19
  go_wp2_with (first | ((with_reducible refine gate_dst (N := 1) rfl ?_); refine bxe (N := 1) (cs := #[.int .i64 a0_0, .int .i64 a0_1]) (t := 23) ?_; intro gb104 hg w3 hbox hb; have BK104 := Aside0.mk (hbox); have GW104 : Aside0 (w.heap.size ≤ gb104) := gwx hg; have GE104 : Aside0 (w.heap.size ≤ gb104) := gwx hg; replace HB := Aside0.mk (below_step blx hb); clear hb hbox hg; obtain ⟨hcz4_0, hcz4_1, hfz4_0, hfz4_1⟩ := c2_ BK104))
  go_ret
  exact ⟨by first | rfl | (simp [errW_none, errW_some] <;> rfl) | (simp [*, errW_none, errW_some] <;> rfl), blx⟩
 ·rw [if_neg c2] at H
  have c2b0 : (a0_0 == 0) = false := beq_eq_false_iff_ne.mpr c2
  have c2b1 : (a0_0 != 0) = true := bne_iff_ne.mpr c2
  by_cases c5 : a0_0 = 1
  ·rw [if_pos c5] at H
   have c5b0 : (a0_0 == 1) = true := beq_iff_eq.mpr c5
   have c5b1 : (a0_0 != 1) = false := bne_eq_false_iff_eq.mpr c5
   clear c5
   replace H := Option.bind_eq_some_iff.mp H
   obtain ⟨t105, A60, H⟩ := H
   replace H : (some t105) = some r := H
   have A6 := Aside0.mk A60
   clear A60
   obtain rfl := Option.some.inj H
   go_enter Tryd.func19, Tryd.ntmps19
   go_wp2_with (first | ((with_reducible refine gate_dst (N := 1) rfl ?_); refine bxe (N := 1) (cs := #[.int .i64 a0_0, .int .i64 a0_1]) (t := 23) ?_; intro gb104 hg w7 hbox hb; have BK104 := Aside0.mk (hbox); have GW104 : Aside0 (w.heap.size ≤ gb104) := gwx hg; have GE104 : Aside0 (w.heap.size ≤ gb104) := gwx hg; replace HB := Aside0.mk (below_step blx hb); clear hb hbox hg; obtain ⟨hcz8_0, hcz8_1, hfz8_0, hfz8_1⟩ := c2_ BK104) | ((with_reducible refine gate_callee (f := 56) rfl ?_); refine goesL_ (some 14) rfl rfl Tryd.func56 (by kernel_rfl) rfl #[.int .i64 a0_1, .int .i64 (-9999999999999), .int .i64 9999999999999] rfl agx ?_; (with_reducible refine (levyref1_within.calls a0_1 (-9999999999999) 9999999999999 t105 _ A6.out).mono ?_); rintro e w' ⟨rfl, ⟨nd, rfl⟩⟩; refine ⟨_, rfl, ?_⟩))
   go_ret
   exact ⟨by first | rfl | (simp [errW_none, errW_some] <;> rfl) | (simp [*, errW_none, errW_some] <;> rfl), blx⟩
  ·rw [if_neg c5] at H
   have c5b0 : (a0_0 == 1) = false := beq_eq_false_iff_ne.mpr c5
   have c5b1 : (a0_0 != 1) = true := bne_iff_ne.mpr c5
   by_cases c9 : a0_0 = 2
   ·rw [if_pos c9] at H
    have c9b0 : (a0_0 == 2) = true := beq_iff_eq.mpr c9
    have c9b1 : (a0_0 != 2) = false := bne_eq_false_iff_eq.mpr c9
    clear c9
    replace H := Option.bind_eq_some_iff.mp H
    obtain ⟨t106, A100, H⟩ := H
    replace H : (some t106) = some r := H
    have A10 := Aside0.mk A100
    clear A100
    obtain rfl := Option.some.inj H
    go_enter Tryd.func19, Tryd.ntmps19
    go_wp2_with (first | ((with_reducible refine gate_dst (N := 1) rfl ?_); refine bxe (N := 1) (cs := #[.int .i64 a0_0, .int .i64 a0_1]) (t := 23) ?_; intro gb104 hg w11 hbox hb; have BK104 := Aside0.mk (hbox); have GW104 : Aside0 (w.heap.size ≤ gb104) := gwx hg; have GE104 : Aside0 (w.heap.size ≤ gb104) := gwx hg; replace HB := Aside0.mk (below_step blx hb); clear hb hbox hg; obtain ⟨hcz12_0, hcz12_1, hfz12_0, hfz12_1⟩ := c2_ BK104) | ((with_reducible refine gate_callee (f := 56) rfl ?_); refine goesL_ (some 19) rfl rfl Tryd.func56 (by kernel_rfl) rfl #[.int .i64 a0_1, .int .i64 (-1000000000), .int .i64 1000000000] rfl agx ?_; (with_reducible refine (levyref1_within.calls a0_1 (-1000000000) 1000000000 t106 _ A10.out).mono ?_); rintro e w' ⟨rfl, ⟨nd, rfl⟩⟩; refine ⟨_, rfl, ?_⟩))
    go_ret
    exact ⟨by first | rfl | (simp [errW_none, errW_some] <;> rfl) | (simp [*, errW_none, errW_some] <;> rfl), blx⟩
   ·rw [if_neg c9] at H
    have c9b0 : (a0_0 == 2) = false := beq_eq_false_iff_ne.mpr c9
    have c9b1 : (a0_0 != 2) = true := bne_iff_ne.mpr c9
    by_cases c13 : a0_0 = 3
    ·rw [if_pos c13] at H
     have c13b0 : (a0_0 == 3) = true := beq_iff_eq.mpr c13
     have c13b1 : (a0_0 != 3) = false := bne_eq_false_iff_eq.mpr c13
     clear c13
     replace H := Option.bind_eq_some_iff.mp H
     obtain ⟨t107, A140, H⟩ := H
     replace H : (some t107) = some r := H
     have A14 := Aside0.mk A140
     clear A140
     obtain rfl := Option.some.inj H
     go_enter Tryd.func19, Tryd.ntmps19
     go_wp2_with (first | ((with_reducible refine gate_dst (N := 1) rfl ?_); refine bxe (N := 1) (cs := #[.int .i64 a0_0, .int .i64 a0_1]) (t := 23) ?_; intro gb104 hg w15 hbox hb; have BK104 := Aside0.mk (hbox); have GW104 : Aside0 (w.heap.size ≤ gb104) := gwx hg; have GE104 : Aside0 (w.heap.size ≤ gb104) := gwx hg; replace HB := Aside0.mk (below_step blx hb); clear hb hbox hg; obtain ⟨hcz16_0, hcz16_1, hfz16_0, hfz16_1⟩ := c2_ BK104) | ((with_reducible refine gate_callee (f := 56) rfl ?_); refine goesL_ (some 24) rfl rfl Tryd.func56 (by kernel_rfl) rfl #[.int .i64 a0_1, .int .i64 0, .int .i64 1] rfl agx ?_; (with_reducible refine (levyref1_within.calls a0_1 0 1 t107 _ A14.out).mono ?_); rintro e w' ⟨rfl, ⟨nd, rfl⟩⟩; refine ⟨_, rfl, ?_⟩))
     go_ret
     exact ⟨by first | rfl | (simp [errW_none, errW_some] <;> rfl) | (simp [*, errW_none, errW_some] <;> rfl), blx⟩
    ·rw [if_neg c13] at H
     have c13b0 : (a0_0 == 3) = false := beq_eq_false_iff_ne.mpr c13
     have c13b1 : (a0_0 != 3) = true := bne_iff_ne.mpr c13
     by_cases c17 : a0_0 = 4
     ·rw [if_pos c17] at H
      have c17b0 : (a0_0 == 4) = true := beq_iff_eq.mpr c17
      have c17b1 : (a0_0 != 4) = false := bne_eq_false_iff_eq.mpr c17
      clear c17
      replace H := Option.bind_eq_some_iff.mp H
      obtain ⟨t108, A180, H⟩ := H
      replace H : (some t108) = some r := H
      have A18 := Aside0.mk A180
      clear A180
      obtain rfl := Option.some.inj H
      go_enter Tryd.func19, Tryd.ntmps19
      go_wp2_with (first | ((with_reducible refine gate_dst (N := 1) rfl ?_); refine bxe (N := 1) (cs := #[.int .i64 a0_0, .int .i64 a0_1]) (t := 23) ?_; intro gb104 hg w19 hbox hb; have BK104 := Aside0.mk (hbox); have GW104 : Aside0 (w.heap.size ≤ gb104) := gwx hg; have GE104 : Aside0 (w.heap.size ≤ gb104) := gwx hg; replace HB := Aside0.mk (below_step blx hb); clear hb hbox hg; obtain ⟨hcz20_0, hcz20_1, hfz20_0, hfz20_1⟩ := c2_ BK104) | ((with_reducible refine gate_callee (f := 56) rfl ?_); refine goesL_ (some 29) rfl rfl Tryd.func56 (by kernel_rfl) rfl #[.int .i64 a0_1, .int .i64 0, .int .i64 109572] rfl agx ?_; (with_reducible refine (levyref1_within.calls a0_1 0 109572 t108 _ A18.out).mono ?_); rintro e w' ⟨rfl, ⟨nd, rfl⟩⟩; refine ⟨_, rfl, ?_⟩))
      go_ret
      exact ⟨by first | rfl | (simp [errW_none, errW_some] <;> rfl) | (simp [*, errW_none, errW_some] <;> rfl), blx⟩
     ·rw [if_neg c17] at H
      have c17b0 : (a0_0 == 4) = false := beq_eq_false_iff_ne.mpr c17
      have c17b1 : (a0_0 != 4) = true := bne_iff_ne.mpr c17
      by_cases c21 : a0_0 = 5
      ·rw [if_pos c21] at H
       have c21b0 : (a0_0 == 5) = true := beq_iff_eq.mpr c21
       have c21b1 : (a0_0 != 5) = false := bne_eq_false_iff_eq.mpr c21
       clear c21
       replace H := Option.bind_eq_some_iff.mp H
       obtain ⟨t109, A220, H⟩ := H
       replace H : (some t109) = some r := H
       have A22 := Aside0.mk A220
       clear A220
       obtain rfl := Option.some.inj H
       go_enter Tryd.func19, Tryd.ntmps19
       go_wp2_with (first | ((with_reducible refine gate_dst (N := 1) rfl ?_); refine bxe (N := 1) (cs := #[.int .i64 a0_0, .int .i64 a0_1]) (t := 23) ?_; intro gb104 hg w23 hbox hb; have BK104 := Aside0.mk (hbox); have GW104 : Aside0 (w.heap.size ≤ gb104) := gwx hg; have GE104 : Aside0 (w.heap.size ≤ gb104) := gwx hg; replace HB := Aside0.mk (below_step blx hb); clear hb hbox hg; obtain ⟨hcz24_0, hcz24_1, hfz24_0, hfz24_1⟩ := c2_ BK104) | ((with_reducible refine gate_callee (f := 56) rfl ?_); refine goesL_ (some 34) rfl rfl Tryd.func56 (by kernel_rfl) rfl #[.int .i64 a0_1, .int .i64 0, .int .i64 7] rfl agx ?_; (with_reducible refine (levyref1_within.calls a0_1 0 7 t109 _ A22.out).mono ?_); rintro e w' ⟨rfl, ⟨nd, rfl⟩⟩; refine ⟨_, rfl, ?_⟩))
       go_ret
       exact ⟨by first | rfl | (simp [errW_none, errW_some] <;> rfl) | (simp [*, errW_none, errW_some] <;> rfl), blx⟩
      ·rw [if_neg c21] at H
       have c21b0 : (a0_0 == 5) = false := beq_eq_false_iff_ne.mpr c21
       have c21b1 : (a0_0 != 5) = true := bne_iff_ne.mpr c21
       by_cases c25 : a0_0 = 6
       ·rw [if_pos c25] at H
        have c25b0 : (a0_0 == 6) = true := beq_iff_eq.mpr c25
        have c25b1 : (a0_0 != 6) = false := bne_eq_false_iff_eq.mpr c25
        clear c25
        replace H := Option.bind_eq_some_iff.mp H
        obtain ⟨t110, A260, H⟩ := H
        replace H : (some t110) = some r := H
        have A26 := Aside0.mk A260
        clear A260
        obtain rfl := Option.some.inj H
        go_enter Tryd.func19, Tryd.ntmps19
        go_wp2_with (first | ((with_reducible refine gate_dst (N := 1) rfl ?_); refine bxe (N := 1) (cs := #[.int .i64 a0_0, .int .i64 a0_1]) (t := 23) ?_; intro gb104 hg w27 hbox hb; have BK104 := Aside0.mk (hbox); have GW104 : Aside0 (w.heap.size ≤ gb104) := gwx hg; have GE104 : Aside0 (w.heap.size ≤ gb104) := gwx hg; replace HB := Aside0.mk (below_step blx hb); clear hb hbox hg; obtain ⟨hcz28_0, hcz28_1, hfz28_0, hfz28_1⟩ := c2_ BK104) | ((with_reducible refine gate_callee (f := 56) rfl ?_); refine goesL_ (some 39) rfl rfl Tryd.func56 (by kernel_rfl) rfl #[.int .i64 a0_1, .int .i64 1, .int .i64 5] rfl agx ?_; (with_reducible refine (levyref1_within.calls a0_1 1 5 t110 _ A26.out).mono ?_); rintro e w' ⟨rfl, ⟨nd, rfl⟩⟩; refine ⟨_, rfl, ?_⟩))
        go_ret
        exact ⟨by first | rfl | (simp [errW_none, errW_some] <;> rfl) | (simp [*, errW_none, errW_some] <;> rfl), blx⟩
       ·rw [if_neg c25] at H
        have c25b0 : (a0_0 == 6) = false := beq_eq_false_iff_ne.mpr c25
        have c25b1 : (a0_0 != 6) = true := bne_iff_ne.mpr c25
        obtain rfl := Option.some.inj H
        go_enter Tryd.func19, Tryd.ntmps19
        go_wp2_with (first | ((with_reducible refine gate_dst (N := 1) rfl ?_); refine bxe (N := 1) (cs := #[.int .i64 a0_0, .int .i64 a0_1]) (t := 23) ?_; intro gb104 hg w29 hbox hb; have BK104 := Aside0.mk (hbox); have GW104 : Aside0 (w.heap.size ≤ gb104) := gwx hg; have GE104 : Aside0 (w.heap.size ≤ gb104) := gwx hg; replace HB := Aside0.mk (below_step blx hb); clear hb hbox hg; obtain ⟨hcz30_0, hcz30_1, hfz30_0, hfz30_1⟩ := c2_ BK104))
        go_ret
        exact ⟨by first | rfl | (simp [errW_none, errW_some] <;> rfl) | (simp [*, errW_none, errW_some] <;> rfl), blx⟩
end Go.Proofs.YtnjhjaifmgjljaaDoor.PM
end

section
namespace Go.Proofs.YtnjhjaifmgjljaaDoor.PM
open Go.RowKit Go.Proofs.YtnjhjaifmgjljaaDoorW.PrintWords Go.Proofs.YtnjhjaifmgjljaaDoorW.PrintLast Go.Proofs.YtnjhjaifmgjljaaDoorW.PrintMore
attribute [local go_sem] max2_int min2_int max_two min_two max_three min_three max_four min_four
set_option linter.unusedVariables false
set_option linter.unusedSimpArgs false
def levyref1_bad.f (a0 : Int) : Option (Int × Int) := some (6, a0)
set_option maxHeartbeats 8000000 in
set_option maxRecDepth 100000 in
theorem levyref1_bad.calls (a0 : Int) (r1 : Int) (r2 : Int) (w : World) (h : levyref1_bad.f a0 = some (r1, r2)) :
  Calls Tryd.prog 57 #[.int .i64 a0] w fun e w' => e = .returned (.agg #[.int .i64 r1, .int .i64 r2]) ∧ Below w.heap.size w w' := by
 have hu23 := Tryd.underlying23
 have HB := Aside0.mk (Below.refl w.heap.size w)
 have H : (some (6, a0)) = some (r1, r2) := h
 clear h
 simp only [Option.some.injEq, Prod.mk.injEq] at H
 obtain ⟨rfl, rfl⟩ := H
 go_enter Tryd.func57, Tryd.ntmps57
 go_wp2_with (first | ((with_reducible refine gate_dst (N := 2) rfl ?_); refine bxe (N := 2) (cs := #[.int .i64 0, .int .i64 0]) (t := 23) ?_; intro gb114 hg w2 hbox hb; have BK114 := Aside0.mk (hbox); have GW114 : Aside0 (w.heap.size ≤ gb114) := gwx hg; have GE114 : Aside0 (w.heap.size ≤ gb114) := gwx hg; replace HB := Aside0.mk (below_step blx hb); clear hb hbox hg; obtain ⟨hcz3_0, hcz3_1, hfz3_0, hfz3_1⟩ := c2_ BK114))
 refine bodyPost_ret (results_cell_row rfl _ _ gb114 23 #[.int .i64 6, .int .i64 a0] (0, 0) _ rfl (by (with_reducible repeat (first | refine blk_drewN ?_ _ | refine blk_drew ?_ | refine blk_alloc ?_ _)); refine blk_put (cs := #[.int .i64 6, .int .i64 0]) ?_ 1 _ rfl; (with_reducible repeat (first | refine blk_drewN ?_ _ | refine blk_drew ?_ | refine blk_alloc ?_ _)); refine blk_put (cs := #[.int .i64 0, .int .i64 0]) ?_ 0 _ rfl; (with_reducible repeat (first | refine blk_drewN ?_ _ | refine blk_drew ?_ | refine blk_alloc ?_ _)); exact BK114.out) Tryd.underlying23 rfl (by kernel_rfl)) rfl ?_
 exact ⟨by first | rfl | (simp [errW_none, errW_some] <;> rfl) | (simp [*, errW_none, errW_some] <;> rfl), blx⟩
end Go.Proofs.YtnjhjaifmgjljaaDoor.PM
end

section
namespace Go.Proofs.YtnjhjaifmgjljaaDoor.PM
open Go.RowKit Go.Proofs.YtnjhjaifmgjljaaDoorW.PrintWords Go.Proofs.YtnjhjaifmgjljaaDoorW.PrintLast Go.Proofs.YtnjhjaifmgjljaaDoorW.PrintMore
attribute [local go_sem] max2_int min2_int max_two min_two max_three min_three max_four min_four
set_option linter.unusedVariables false
set_option linter.unusedSimpArgs false
def levyref1_bounded.f (a0 : Int) (a1 : Int) : Option (Int × Int) := (levyref1_Valid.f a0 a1).bind fun t117 => (if t117 = true then (some (a0, a1)) else ((levyref1_bad.f 1).bind fun bt118 => (some (bt118.1, bt118.2))))
set_option maxHeartbeats 8000000 in
set_option maxRecDepth 100000 in
theorem levyref1_bounded.calls (a0 : Int) (a1 : Int) (r1 : Int) (r2 : Int) (w : World) (h : levyref1_bounded.f a0 a1 = some (r1, r2)) :
  Calls Tryd.prog 58 #[.int .i64 a0, .int .i64 a1] w fun e w' => e = .returned (.agg #[.int .i64 r1, .int .i64 r2]) ∧ Below w.heap.size w w' := by
 have hu23 := Tryd.underlying23
 have HB := Aside0.mk (Below.refl w.heap.size w)
 have H : ((levyref1_Valid.f a0 a1).bind fun t117 => (if t117 = true then (some (a0, a1)) else ((levyref1_bad.f 1).bind fun bt118 => (some (bt118.1, bt118.2))))) = some (r1, r2) := h
 clear h
 replace H := Option.bind_eq_some_iff.mp H
 obtain ⟨t117, A30, H⟩ := H
 replace H : (if t117 = true then (some (a0, a1)) else ((levyref1_bad.f 1).bind fun bt118 => (some (bt118.1, bt118.2)))) = some (r1, r2) := H
 have A3 := Aside0.mk A30
 clear A30
 by_cases c4 : t117 = true
 ·subst c4
  have H1 : (some (a0, a1)) = some (r1, r2) := by rw [if_pos rfl] at H; exact H
  clear H
  have H := H1
  clear H1
  simp only [Option.some.injEq, Prod.mk.injEq] at H
  obtain ⟨rfl, rfl⟩ := H
  go_enter Tryd.func58, Tryd.ntmps58
  go_wp2_with (first | ((with_reducible refine gate_dst (N := 4) rfl ?_); refine bxe (N := 4) (cs := #[.int .i64 0, .int .i64 0]) (t := 23) ?_; intro gb115 hg w5 hbox hb; have BK115 := Aside0.mk (hbox); have GW115 : Aside0 (w.heap.size ≤ gb115) := gwx hg; have GE115 : Aside0 (w.heap.size ≤ gb115) := gwx hg; replace HB := Aside0.mk (below_step blx hb); clear hb hbox hg) | ((with_reducible refine gate_dst (N := 5) rfl ?_); refine bxe (N := 5) (cs := #[.int .i64 0, .int .i64 0]) (t := 23) ?_; intro gb116 hg w6 hbox hb; have BK116 := Aside0.mk (hbox); have GW116 : Aside0 (w.heap.size ≤ gb116) := gwx hg; have GE116 : Aside0 (w.heap.size ≤ gb116) := gwx hg; replace HB := Aside0.mk (below_step blx hb); have NB115_116 := nbl BK115 hg; have NB116_115 := nbg BK115 hg; replace BK115 := bkq BK115 hb; clear hb hbox hg; have hnb7 := NB116_115.out; have hnc7 := NB115_116.out; obtain ⟨hcz8_0, hcz8_1, hfz8_0, hfz8_1⟩ := c2_ BK116) | ((with_reducible refine gate_callee (f := 19) rfl ?_); refine goesL_ (some 10) rfl rfl Tryd.func19 (by kernel_rfl) rfl #[.agg #[.int .i64 a0, .int .i64 a1]] rfl agx ?_; (with_reducible refine (levyref1_Valid.calls a0 a1 true _ A3.out).mono ?_); rintro e w9 ⟨rfl, hb⟩; refine ⟨_, rfl, ?_⟩; replace BK115 := bkq BK115 hb; replace BK116 := Aside0.mk (blk_below (g := gb116) (o := .cells #[.int .i64 a0, .int .i64 a1] 23 (0, 0)) (by (with_reducible repeat (first | refine blk_drewN ?_ _ | refine blk_drew ?_ | refine blk_alloc ?_ _)); refine blk_put (cs := #[.int .i64 a0, .int .i64 0]) ?_ 1 _ rfl; (with_reducible repeat (first | refine blk_drewN ?_ _ | refine blk_drew ?_ | refine blk_alloc ?_ _)); refine blk_put (cs := #[.int .i64 0, .int .i64 0]) ?_ 0 _ rfl; (with_reducible repeat (first | refine blk_drewN ?_ _ | refine blk_drew ?_ | refine blk_alloc ?_ _)); exact BK116.out) hb); replace HB := Aside0.mk (below_step blx hb); (try clear hb); (try clear hb2); (try clear hk); (try clear hi); obtain ⟨hcz10_0, hcz10_1, hfz10_0, hfz10_1⟩ := c2_ BK116; obtain ⟨hcz11_0, hcz11_1, hfz11_0, hfz11_1⟩ := c2_ BK115))
  refine bodyPost_ret (results_cell_row rfl _ _ gb115 23 #[.int .i64 a0, .int .i64 a1] (0, 0) _ rfl (by (with_reducible repeat (first | refine blk_drewN ?_ _ | refine blk_drew ?_ | refine blk_alloc ?_ _)); refine blk_put (cs := #[.int .i64 a0, .int .i64 0]) ?_ 1 _ rfl; (with_reducible repeat (first | refine blk_drewN ?_ _ | refine blk_drew ?_ | refine blk_alloc ?_ _)); refine blk_put (cs := #[.int .i64 0, .int .i64 0]) ?_ 0 _ rfl; (with_reducible repeat (first | refine blk_drewN ?_ _ | refine blk_drew ?_ | refine blk_alloc ?_ _)); exact BK115.out) Tryd.underlying23 rfl (by kernel_rfl)) rfl ?_
  exact ⟨by first | rfl | (simp [errW_none, errW_some] <;> rfl) | (simp [*, errW_none, errW_some] <;> rfl), blx⟩
 ·replace c4 := Bool.eq_false_iff.mpr c4
  subst c4
  have H1 : ((levyref1_bad.f 1).bind fun bt118 => (some (bt118.1, bt118.2))) = some (r1, r2) := by rw [if_neg (show ¬ (false = true) by decide)] at H; exact H
  clear H
  have H := H1
  clear H1
  replace H := Option.bind_eq_some_iff.mp H
  obtain ⟨⟨t118, t119⟩, A120, H⟩ := H
  replace H : (some (t118, t119)) = some (r1, r2) := H
  have A12 := Aside0.mk A120
  clear A120
  simp only [Option.some.injEq, Prod.mk.injEq] at H
  obtain ⟨rfl, rfl⟩ := H
  go_enter Tryd.func58, Tryd.ntmps58
  go_wp2_with (first | ((with_reducible refine gate_dst (N := 4) rfl ?_); refine bxe (N := 4) (cs := #[.int .i64 0, .int .i64 0]) (t := 23) ?_; intro gb115 hg w13 hbox hb; have BK115 := Aside0.mk (hbox); have GW115 : Aside0 (w.heap.size ≤ gb115) := gwx hg; have GE115 : Aside0 (w.heap.size ≤ gb115) := gwx hg; replace HB := Aside0.mk (below_step blx hb); clear hb hbox hg) | ((with_reducible refine gate_dst (N := 5) rfl ?_); refine bxe (N := 5) (cs := #[.int .i64 0, .int .i64 0]) (t := 23) ?_; intro gb116 hg w14 hbox hb; have BK116 := Aside0.mk (hbox); have GW116 : Aside0 (w.heap.size ≤ gb116) := gwx hg; have GE116 : Aside0 (w.heap.size ≤ gb116) := gwx hg; replace HB := Aside0.mk (below_step blx hb); have NB115_116 := nbl BK115 hg; have NB116_115 := nbg BK115 hg; replace BK115 := bkq BK115 hb; clear hb hbox hg; have hnb15 := NB116_115.out; have hnc15 := NB115_116.out; obtain ⟨hcz16_0, hcz16_1, hfz16_0, hfz16_1⟩ := c2_ BK116) | ((with_reducible refine gate_callee (f := 19) rfl ?_); refine goesL_ (some 10) rfl rfl Tryd.func19 (by kernel_rfl) rfl #[.agg #[.int .i64 a0, .int .i64 a1]] rfl agx ?_; (with_reducible refine (levyref1_Valid.calls a0 a1 false _ A3.out).mono ?_); rintro e w17 ⟨rfl, hb⟩; refine ⟨_, rfl, ?_⟩; replace BK115 := bkq BK115 hb; replace BK116 := Aside0.mk (blk_below (g := gb116) (o := .cells #[.int .i64 a0, .int .i64 a1] 23 (0, 0)) (by (with_reducible repeat (first | refine blk_drewN ?_ _ | refine blk_drew ?_ | refine blk_alloc ?_ _)); refine blk_put (cs := #[.int .i64 a0, .int .i64 0]) ?_ 1 _ rfl; (with_reducible repeat (first | refine blk_drewN ?_ _ | refine blk_drew ?_ | refine blk_alloc ?_ _)); refine blk_put (cs := #[.int .i64 0, .int .i64 0]) ?_ 0 _ rfl; (with_reducible repeat (first | refine blk_drewN ?_ _ | refine blk_drew ?_ | refine blk_alloc ?_ _)); exact BK116.out) hb); replace HB := Aside0.mk (below_step blx hb); (try clear hb); (try clear hb2); (try clear hk); (try clear hi)) | ((with_reducible refine gate_callee (f := 57) rfl ?_); refine goesL_ (some 12) rfl rfl Tryd.func57 (by kernel_rfl) rfl #[.int .i64 1] rfl agx ?_; (with_reducible refine (levyref1_bad.calls 1 t118 t119 _ A12.out).mono ?_); rintro e w18 ⟨rfl, hb⟩; refine ⟨_, rfl, ?_⟩; replace BK115 := bkq BK115 hb; replace BK116 := bkq BK116 hb; replace HB := Aside0.mk (below_step blx hb); (try clear hb); (try clear hb2); (try clear hk); (try clear hi); obtain ⟨hcz19_0, hcz19_1, hfz19_0, hfz19_1⟩ := c2_ BK115))
  refine bodyPost_ret (results_cell_row rfl _ _ gb115 23 #[.int .i64 t118, .int .i64 t119] (0, 0) _ rfl (by (with_reducible repeat (first | refine blk_drewN ?_ _ | refine blk_drew ?_ | refine blk_alloc ?_ _)); refine blk_put (cs := #[.int .i64 t118, .int .i64 0]) ?_ 1 _ rfl; (with_reducible repeat (first | refine blk_drewN ?_ _ | refine blk_drew ?_ | refine blk_alloc ?_ _)); refine blk_put (cs := #[.int .i64 0, .int .i64 0]) ?_ 0 _ rfl; (with_reducible repeat (first | refine blk_drewN ?_ _ | refine blk_drew ?_ | refine blk_alloc ?_ _)); exact BK115.out) Tryd.underlying23 rfl (by kernel_rfl)) rfl ?_
  exact ⟨by first | rfl | (simp [errW_none, errW_some] <;> rfl) | (simp [*, errW_none, errW_some] <;> rfl), blx⟩
end Go.Proofs.YtnjhjaifmgjljaaDoor.PM
end

section
namespace Go.Proofs.YtnjhjaifmgjljaaDoor.PM
open Go.RowKit Go.Proofs.YtnjhjaifmgjljaaDoorW.PrintWords Go.Proofs.YtnjhjaifmgjljaaDoorW.PrintLast Go.Proofs.YtnjhjaifmgjljaaDoorW.PrintMore
attribute [local go_sem] max2_int min2_int max_two min_two max_three min_three max_four min_four
set_option linter.unusedVariables false
set_option linter.unusedSimpArgs false
mutual
def levyref1_Taken.j0 : Nat → Int → List (S23) → Bool → Option (Int × Int × Int)
 | 0, _, _, _ => none
 | k + 1, x0, x1, x13 => if x13 = true then ((levyref1_bad.f 5).bind fun bt121 => (some (bt121.1, bt121.2, 0))) else (levyref1_Taken.l0 k x0 x1 0 0)
def levyref1_Taken.l0 : Nat → Int → List (S23) → Int → Int → Option (Int × Int × Int)
 | 0, _, _, _, _ => none
 | k + 1, x0, x1, x6, x7 => if x7 < (x1.length : Int) then (if 0 ≤ x7 then (if ((rd_T23 x1 x7).f0) = 0 then (levyref1_Taken.j2 k x0 x1 x6 x7 (((rd_T23 x1 x7).f1) == 0)) else (levyref1_Taken.j2 k x0 x1 x6 x7 false)) else (none)) else ((levyref1_bounded.f x0 x6).bind fun bt123 => (some (bt123.1, bt123.2, (x1.length : Int))))
def levyref1_Taken.j2 : Nat → Int → List (S23) → Int → Int → Bool → Option (Int × Int × Int)
 | 0, _, _, _, _, _ => none
 | k + 1, x0, x1, x6, x7, x34 => if x34 = true then (levyref1_Taken.l0 k x0 x1 x6 (wrap64 (x7 + 1))) else (if 0 ≤ x7 then (if x7 < (x1.length : Int) then ((levyref1_Valid.f ((rd_T23 x1 x7).f0) ((rd_T23 x1 x7).f1)).bind fun t128 => (if t128 = true then (if ((rd_T23 x1 x7).f0) = 6 then (some ((rd_T23 x1 x7).f0, (rd_T23 x1 x7).f1, wrap64 (x7 + 1))) else (if ((rd_T23 x1 x7).f0) = x0 then (levyref1_Taken.l0 k x0 x1 (wrap64 (x6 + ((rd_T23 x1 x7).f1))) (wrap64 (x7 + 1))) else ((levyref1_bad.f 5).bind fun bt135 => (some (bt135.1, bt135.2, wrap64 (x7 + 1)))))) else ((levyref1_bad.f 5).bind fun bt129 => (some (bt129.1, bt129.2, wrap64 (x7 + 1)))))) else (none)) else (none))
end
def levyref1_Taken.f (k : Nat) (a0 : Int) (l1 : List (S23)) : Option (Int × Int × Int) := if a0 = 1 then (levyref1_Taken.j0 k a0 l1 false) else (levyref1_Taken.j0 k a0 l1 (a0 != 2))
theorem levyref1_Taken.mono_l : ∀ k, (∀ y0 y1 y2, LeO (levyref1_Taken.j0 k y0 y1 y2) (levyref1_Taken.j0 (k + 1) y0 y1 y2)) ∧ (∀ y0 y1 y2 y3, LeO (levyref1_Taken.l0 k y0 y1 y2 y3) (levyref1_Taken.l0 (k + 1) y0 y1 y2 y3)) ∧ (∀ y0 y1 y2 y3 y4, LeO (levyref1_Taken.j2 k y0 y1 y2 y3 y4) (levyref1_Taken.j2 (k + 1) y0 y1 y2 y3 y4))
 | 0 => ⟨fun _ _ _ r h => by simp [levyref1_Taken.j0] at h, fun _ _ _ _ r h => by simp [levyref1_Taken.l0] at h, fun _ _ _ _ _ r h => by simp [levyref1_Taken.j2] at h⟩
 | k + 1 => by
  obtain ⟨ih0, ih1, ih2⟩ := levyref1_Taken.mono_l k
  refine ⟨?_, ?_, ?_⟩
  ·intro y0 y1 y2
   unfold levyref1_Taken.j0
   repeat' first
   | (with_reducible exact ih0 _ _ _)
   | (with_reducible exact ih1 _ _ _ _)
   | (with_reducible exact ih2 _ _ _ _ _)
   | (with_reducible exact LeO.refl _)
   | (with_reducible exact LeO.none _)
   | (with_reducible refine LeO.ite ?_ ?_)
   | (with_reducible refine LeO.bind ?_ (fun _ => ?_))
   | exact ih0 _ _ _
   | exact ih1 _ _ _ _
   | exact ih2 _ _ _ _ _
   | exact LeO.none _
   | refine LeO.ite ?_ ?_
   | refine LeO.bind ?_ (fun _ => ?_)
  ·intro y0 y1 y2 y3
   unfold levyref1_Taken.l0
   repeat' first
   | (with_reducible exact ih0 _ _ _)
   | (with_reducible exact ih1 _ _ _ _)
   | (with_reducible exact ih2 _ _ _ _ _)
   | (with_reducible exact LeO.refl _)
   | (with_reducible exact LeO.none _)
   | (with_reducible refine LeO.ite ?_ ?_)
   | (with_reducible refine LeO.bind ?_ (fun _ => ?_))
   | exact ih0 _ _ _
   | exact ih1 _ _ _ _
   | exact ih2 _ _ _ _ _
   | exact LeO.none _
   | refine LeO.ite ?_ ?_
   | refine LeO.bind ?_ (fun _ => ?_)
  ·intro y0 y1 y2 y3 y4
   unfold levyref1_Taken.j2
   repeat' first
   | (with_reducible exact ih0 _ _ _)
   | (with_reducible exact ih1 _ _ _ _)
   | (with_reducible exact ih2 _ _ _ _ _)
   | (with_reducible exact LeO.refl _)
   | (with_reducible exact LeO.none _)
   | (with_reducible refine LeO.ite ?_ ?_)
   | (with_reducible refine LeO.bind ?_ (fun _ => ?_))
   | exact ih0 _ _ _
   | exact ih1 _ _ _ _
   | exact ih2 _ _ _ _ _
   | exact LeO.none _
   | refine LeO.ite ?_ ?_
   | refine LeO.bind ?_ (fun _ => ?_)
theorem levyref1_Taken.mono : ∀ a0 a1 k, LeO (levyref1_Taken.f k a0 a1) (levyref1_Taken.f (k + 1) a0 a1) := by
 intro a0 a1 k
 obtain ⟨ih0, ih1, ih2⟩ := levyref1_Taken.mono_l k
 unfold levyref1_Taken.f
 repeat' first
   | (with_reducible exact ih0 _ _ _)
   | (with_reducible exact ih1 _ _ _ _)
   | (with_reducible exact ih2 _ _ _ _ _)
   | (with_reducible exact LeO.refl _)
   | (with_reducible exact LeO.none _)
   | (with_reducible refine LeO.ite ?_ ?_)
   | (with_reducible refine LeO.bind ?_ (fun _ => ?_))
   | exact ih0 _ _ _
   | exact ih1 _ _ _ _
   | exact ih2 _ _ _ _ _
   | exact LeO.none _
   | refine LeO.ite ?_ ?_
   | refine LeO.bind ?_ (fun _ => ?_)
set_option maxHeartbeats 8000000 in
set_option maxRecDepth 100000 in
theorem levyref1_Taken.calls (k : Nat) (a0 : Int) (A1 : Option Addr) (c1 : Nat) (l1 : List (S23)) (r1 : Int) (r2 : Int) (r3 : Int) (w : World) (hr1 : Kd.C k23 w A1 l1.length l1) (hc1 : l1.length ≤ c1) (h : levyref1_Taken.f k a0 l1 = some (r1, r2, r3)) :
  Calls Tryd.prog 20 #[.int .i64 a0, .slice A1 l1.length c1] w fun e w' => e = .returned (.tuple #[.agg #[.int .i64 r1, .int .i64 r2], .int .i64 r3]) ∧ Below w.heap.size w w' := by
 have hu23 := Tryd.underlying23
 have HR1 := Aside0.mk hr1
 have HC1 := Aside0.mk hc1
 clear hr1 hc1
 have HB := Aside0.mk (Below.refl w.heap.size w)
 have H : (if a0 = 1 then (levyref1_Taken.j0 k a0 l1 false) else (levyref1_Taken.j0 k a0 l1 (a0 != 2))) = some (r1, r2, r3) := h
 clear h
 have HC3 := Aside0.mk H
 clear H
 go_enter Tryd.func20, Tryd.ntmps20
 go_upto_region 1 with (first | ((with_reducible refine gate_dst (N := 4) rfl ?_); refine bxe (N := 4) (cs := #[.int .i64 0, .int .i64 0]) (t := 23) ?_; intro gb120 hg w4 hbox hb; have BK120 := Aside0.mk (hbox); have GW120 : Aside0 (w.heap.size ≤ gb120) := gwx hg; have GE120 : Aside0 (w.heap.size ≤ gb120) := gwx hg; replace HB := Aside0.mk (below_step blx hb); clear hb hbox hg))
 (try simp only [Act.put, List.setIfInBounds_toArray, List.set_cons_zero, List.set_cons_succ])
 go_cut [13] (fun v13 wc => ∃ (kq : Nat) (x13_2 : Bool), v13 = .bool x13_2 ∧ Aside0 (levyref1_Taken.j0 kq a0 l1 x13_2 = some (r1, r2, r3)) ∧ Aside0 (kq ≤ k) ∧ Aside0 (wc.heap[gb120]? = some (.cells #[.int .i64 0, .int .i64 0] 23 (0, 0))) ∧ Aside0 (Below w.heap.size w wc))
 case first =>
  have H := HC3.out
  clear HC3
  by_cases c5 : a0 = 1
  ·rw [if_pos c5] at H
   have c5b0 : (a0 == 1) = true := beq_iff_eq.mpr c5
   have c5b1 : (a0 != 1) = false := bne_eq_false_iff_eq.mpr c5
   clear c5
   (first | rw [c5b0] | (simp only [i64_w, i32_w]; rw [c5b0]) | skip)
   have H' := Aside0.mk H
   clear H
   go_wp2
   go_meet
   case rel => exact ⟨_, (false), (by first | rfl | (simp; done) | (simp [*]; done)), H', ⟨by first | omega | exact Nat.le_refl _⟩, ⟨bkx⟩, ⟨blx⟩⟩
  ·rw [if_neg c5] at H
   have c5b0 : (a0 == 1) = false := beq_eq_false_iff_ne.mpr c5
   have c5b1 : (a0 != 1) = true := bne_iff_ne.mpr c5
   (first | rw [c5b0] | (simp only [i64_w, i32_w]; rw [c5b0]) | skip)
   have H' := Aside0.mk H
   clear H
   go_wp2
   go_meet
   case rel => exact ⟨_, ((a0 != 2)), (by first | rfl | (simp; done) | (simp [*]; done)), H', ⟨by first | omega | exact Nat.le_refl _⟩, ⟨bkx⟩, ⟨blx⟩⟩
 case rest =>
  clear HC3
  try clear c1
  try clear c2
  try clear p2
  try clear c5
  try clear c5b0
  try clear c5b1
  obtain ⟨kq, x13_2, rfl, HA, HJ2, BK120, HB⟩ := hcut
  cases kq with
  | zero => exact absurd HA.out (by simp [levyref1_Taken.j0])
  | succ kj2 =>
   have H := HA.out
   clear HA
   simp only [levyref1_Taken.j0] at H
   by_cases c6 : x13_2 = true
   ·subst c6
    have H1 : ((levyref1_bad.f 5).bind fun bt121 => (some (bt121.1, bt121.2, 0))) = some (r1, r2, r3) := by rw [if_pos rfl] at H; exact H
    clear H
    have H := H1
    clear H1
    replace H := Option.bind_eq_some_iff.mp H
    obtain ⟨⟨t121, t122⟩, A70, H⟩ := H
    replace H : (some (t121, t122, 0)) = some (r1, r2, r3) := H
    have A7 := Aside0.mk A70
    clear A70
    simp only [Option.some.injEq, Prod.mk.injEq] at H
    obtain ⟨rfl, rfl, rfl⟩ := H
    go_wp2_with (first | ((with_reducible refine gate_callee (f := 57) rfl ?_); refine goesL_ (some 14) rfl rfl Tryd.func57 (by kernel_rfl) rfl #[.int .i64 5] rfl agx ?_; (with_reducible refine (levyref1_bad.calls 5 t121 t122 _ A7.out).mono ?_); rintro e w8 ⟨rfl, hb⟩; refine ⟨_, rfl, ?_⟩; replace BK120 := bkq BK120 hb; replace HB := Aside0.mk (below_step blx hb); (try clear hb); (try clear hb2); (try clear hk); (try clear hi); obtain ⟨hcz9_0, hcz9_1, hfz9_0, hfz9_1⟩ := c2_ BK120))
    refine bodyPost_ret (results_ct rfl _ _ gb120 23 #[.int .i64 t121, .int .i64 t122] (0, 0) _ rfl (by (with_reducible repeat (first | refine blk_drewN ?_ _ | refine blk_drew ?_ | refine blk_alloc ?_ _)); refine blk_put (cs := #[.int .i64 t121, .int .i64 0]) ?_ 1 _ rfl; (with_reducible repeat (first | refine blk_drewN ?_ _ | refine blk_drew ?_ | refine blk_alloc ?_ _)); refine blk_put (cs := #[.int .i64 0, .int .i64 0]) ?_ 0 _ rfl; (with_reducible repeat (first | refine blk_drewN ?_ _ | refine blk_drew ?_ | refine blk_alloc ?_ _)); exact BK120.out) Tryd.underlying23 rfl (by kernel_rfl)) rfl ?_
    exact ⟨by first | rfl | (simp [errW_none, errW_some] <;> rfl) | (simp [*, errW_none, errW_some] <;> rfl), blx⟩
   ·replace c6 := Bool.eq_false_iff.mpr c6
    subst c6
    have H1 : (levyref1_Taken.l0 kj2 a0 l1 0 0) = some (r1, r2, r3) := by rw [if_neg (show ¬ (false = true) by decide)] at H; exact H
    clear H
    have H := H1
    clear H1
    have H' := Aside0.mk H
    clear H
    go_wp2
    go_loopg [6, 7] kj2 (fun kq v6 v7 w' => ∃ (x6_2 : Int) (x7_2 : Int) (x121000_2 : Int) (x121001_2 : Int), v6 = .int .i64 x6_2 ∧ v7 = .int .i64 x7_2 ∧ Aside0 (levyref1_Taken.l0 kq a0 l1 x6_2 x7_2 = some (r1, r2, r3)) ∧ Aside0 (kq ≤ kj2) ∧ Aside0 (w'.heap[gb120]? = some (.cells #[.int .i64 x121000_2, .int .i64 x121001_2] 23 (0, 0))) ∧ Aside0 (Below w.heap.size w w'))
    case atStart => exact ⟨(0), (0), (0), (0), (by first | rfl | (simp; done) | (simp [*]; done)), (by first | rfl | (simp; done) | (simp [*]; done)), H', ⟨Nat.le_refl _⟩, ⟨bkx⟩, ⟨blx⟩⟩
    case round =>
     clear H'
     try clear c1
     try clear c2
     try clear p2
     try clear c5
     try clear c5b0
     try clear c5b1
     try clear c6
     try clear hcz9_0
     try clear hcz9_1
     try clear hfz9_0
     try clear hfz9_1
     try clear p2
     obtain ⟨x6_2, x7_2, x121000_2, x121001_2, rfl, rfl, HA, HK2, BK120, HB⟩ := hrel
     cases gk with
     | zero => exact absurd HA.out (by simp [levyref1_Taken.l0])
     | succ k2 =>
      have H := HA.out
      clear HA
      simp only [levyref1_Taken.l0] at H
      by_cases c10 : x7_2 < (l1.length : Int)
      ·rw [if_pos c10] at H
       have c10b0 : decide (x7_2 < (l1.length : Int)) = true := decide_eq_true c10
       clear c10
       have HC11 := Aside0.mk H
       clear H
       go_upto_region 7 with (fail)
       go_cut [34] (fun v34 wc => ∃ (kq : Nat) (x34_10 : Bool), v34 = .bool x34_10 ∧ Aside0 (levyref1_Taken.j2 kq a0 l1 x6_2 x7_2 x34_10 = some (r1, r2, r3)) ∧ Aside0 (kq ≤ k2) ∧ Aside0 (wc.heap[gb120]? = some (.cells #[.int .i64 x121000_2, .int .i64 x121001_2] 23 (0, 0))) ∧ Aside0 (Below w.heap.size w wc))
       case first =>
        have H := HC11.out
        clear HC11
        by_cases c12 : 0 ≤ x7_2
        ·rw [if_pos c12] at H
         have c12b0 : decide (0 ≤ x7_2) = true := decide_eq_true c12
         clear c12
         (first | rw [c12b0] | (simp only [i64_w, i32_w]; rw [c12b0]) | skip)
         by_cases c13 : ((rd_T23 l1 x7_2).f0) = 0
         ·rw [if_pos c13] at H
          have c13b0 : (((rd_T23 l1 x7_2).f0) == 0) = true := beq_iff_eq.mpr c13
          have c13b1 : (((rd_T23 l1 x7_2).f0) != 0) = false := bne_eq_false_iff_eq.mpr c13
          clear c13
          have H' := Aside0.mk H
          clear H
          have p125 : 0 ≤ (x7_2 : Int) := odx
          have q125 : x7_2 < (l1.length : Int) := odx
          obtain ⟨ad125, e125, hx125_0, hx125_1⟩ := at_T23 HR1.out x7_2 p125 q125
          cases e125
          replace hx125_0 := (HB.out.cell (World.block_lt_of_cell? w _ hx125_0)).trans hx125_0
          replace hx125_1 := (HB.out.cell (World.block_lt_of_cell? w _ hx125_1)).trans hx125_1
          replace p125 := eq_true p125
          replace q125 := eq_true q125
          have p126 : 0 ≤ (x7_2 : Int) := odx
          have q126 : x7_2 < (l1.length : Int) := odx
          obtain ⟨ad126, e126, hx126_0, hx126_1⟩ := at_T23 HR1.out x7_2 p126 q126
          obtain rfl : ad125 = ad126 := (by injection e126)
          replace hx126_0 := (HB.out.cell (World.block_lt_of_cell? w _ hx126_0)).trans hx126_0
          replace hx126_1 := (HB.out.cell (World.block_lt_of_cell? w _ hx126_1)).trans hx126_1
          replace p126 := eq_true p126
          replace q126 := eq_true q126
          go_wp2
          go_meet
          case rel => exact ⟨_, ((((rd_T23 l1 x7_2).f1) == 0)), (by first | rfl | (simp; done) | (simp [*]; done)), H', ⟨by have := HJ2.out; have := HK2.out; first | omega | exact Nat.le_refl _⟩, ⟨bkx⟩, ⟨blx⟩⟩
         ·rw [if_neg c13] at H
          have c13b0 : (((rd_T23 l1 x7_2).f0) == 0) = false := beq_eq_false_iff_ne.mpr c13
          have c13b1 : (((rd_T23 l1 x7_2).f0) != 0) = true := bne_iff_ne.mpr c13
          have H' := Aside0.mk H
          clear H
          have p125 : 0 ≤ (x7_2 : Int) := odx
          have q125 : x7_2 < (l1.length : Int) := odx
          obtain ⟨ad125, e125, hx125_0, hx125_1⟩ := at_T23 HR1.out x7_2 p125 q125
          cases e125
          replace hx125_0 := (HB.out.cell (World.block_lt_of_cell? w _ hx125_0)).trans hx125_0
          replace hx125_1 := (HB.out.cell (World.block_lt_of_cell? w _ hx125_1)).trans hx125_1
          replace p125 := eq_true p125
          replace q125 := eq_true q125
          go_wp2
          go_meet
          case rel => exact ⟨_, (false), (by first | rfl | (simp; done) | (simp [*]; done)), H', ⟨by have := HJ2.out; have := HK2.out; first | omega | exact Nat.le_refl _⟩, ⟨bkx⟩, ⟨blx⟩⟩
        ·rw [if_neg c12] at H
         exact absurd H (by simp)
       case rest =>
        clear HC11
        try clear c1
        try clear p1
        try clear q1
        try clear hx1
        try clear c2
        try clear p2
        try clear c5
        try clear c5b0
        try clear c5b1
        try clear c6
        try clear c10
        try clear c10b0
        try clear c12
        try clear c12b0
        try clear p12
        try clear q12
        try clear hx12
        try clear c13
        try clear c13b0
        try clear c13b1
        try clear hcz9_0
        try clear hcz9_1
        try clear hfz9_0
        try clear hfz9_1
        try clear hx125_0
        try clear hx125_1
        try clear hx126_0
        try clear hx126_1
        try clear p125
        try clear p126
        try clear p2
        try clear q125
        try clear q126
        obtain ⟨kq, x34_10, rfl, HA, HJ10, BK120, HB⟩ := hcut
        cases kq with
        | zero => exact absurd HA.out (by simp [levyref1_Taken.j2])
        | succ kj10 =>
         have H := HA.out
         clear HA
         simp only [levyref1_Taken.j2] at H
         by_cases c14 : x34_10 = true
         ·subst c14
          have H1 : (levyref1_Taken.l0 kj10 a0 l1 x6_2 (wrap64 (x7_2 + 1))) = some (r1, r2, r3) := by rw [if_pos rfl] at H; exact H
          clear H
          have H := H1
          clear H1
          have H' := Aside0.mk H
          clear H
          go_wp2
          go_roundg kj10
          case measure => have := HJ2.out; have := HK2.out; have := HJ10.out; omega
          case rel => exact ⟨(x6_2), (wrap64 (x7_2 + 1)), (x121000_2), (x121001_2), (by first | rfl | (simp; done) | (simp [*]; done)), (by first | rfl | (simp; done) | (simp [*]; done)), H', ⟨by have := HJ2.out; have := HK2.out; have := HJ10.out; omega⟩, ⟨bkx⟩, ⟨blx⟩⟩
         ·replace c14 := Bool.eq_false_iff.mpr c14
          subst c14
          have H1 : (if 0 ≤ x7_2 then (if x7_2 < (l1.length : Int) then ((levyref1_Valid.f ((rd_T23 l1 x7_2).f0) ((rd_T23 l1 x7_2).f1)).bind fun t128 => (if t128 = true then (if ((rd_T23 l1 x7_2).f0) = 6 then (some ((rd_T23 l1 x7_2).f0, (rd_T23 l1 x7_2).f1, wrap64 (x7_2 + 1))) else (if ((rd_T23 l1 x7_2).f0) = a0 then (levyref1_Taken.l0 kj10 a0 l1 (wrap64 (x6_2 + ((rd_T23 l1 x7_2).f1))) (wrap64 (x7_2 + 1))) else ((levyref1_bad.f 5).bind fun bt135 => (some (bt135.1, bt135.2, wrap64 (x7_2 + 1)))))) else ((levyref1_bad.f 5).bind fun bt129 => (some (bt129.1, bt129.2, wrap64 (x7_2 + 1)))))) else (none)) else (none)) = some (r1, r2, r3) := by rw [if_neg (show ¬ (false = true) by decide)] at H; exact H
          clear H
          have H := H1
          clear H1
          by_cases c15 : 0 ≤ x7_2
          ·rw [if_pos c15] at H
           have c15b0 : decide (0 ≤ x7_2) = true := decide_eq_true c15
           clear c15
           by_cases c16 : x7_2 < (l1.length : Int)
           ·rw [if_pos c16] at H
            have c16b0 : decide (x7_2 < (l1.length : Int)) = true := decide_eq_true c16
            clear c16
            replace H := Option.bind_eq_some_iff.mp H
            obtain ⟨t128, A170, H⟩ := H
            replace H : (if t128 = true then (if ((rd_T23 l1 x7_2).f0) = 6 then (some ((rd_T23 l1 x7_2).f0, (rd_T23 l1 x7_2).f1, wrap64 (x7_2 + 1))) else (if ((rd_T23 l1 x7_2).f0) = a0 then (levyref1_Taken.l0 kj10 a0 l1 (wrap64 (x6_2 + ((rd_T23 l1 x7_2).f1))) (wrap64 (x7_2 + 1))) else ((levyref1_bad.f 5).bind fun bt135 => (some (bt135.1, bt135.2, wrap64 (x7_2 + 1)))))) else ((levyref1_bad.f 5).bind fun bt129 => (some (bt129.1, bt129.2, wrap64 (x7_2 + 1))))) = some (r1, r2, r3) := H
            have A17 := Aside0.mk A170
            clear A170
            by_cases c18 : t128 = true
            ·subst c18
             have H1 : (if ((rd_T23 l1 x7_2).f0) = 6 then (some ((rd_T23 l1 x7_2).f0, (rd_T23 l1 x7_2).f1, wrap64 (x7_2 + 1))) else (if ((rd_T23 l1 x7_2).f0) = a0 then (levyref1_Taken.l0 kj10 a0 l1 (wrap64 (x6_2 + ((rd_T23 l1 x7_2).f1))) (wrap64 (x7_2 + 1))) else ((levyref1_bad.f 5).bind fun bt135 => (some (bt135.1, bt135.2, wrap64 (x7_2 + 1)))))) = some (r1, r2, r3) := by rw [if_pos rfl] at H; exact H
             clear H
             have H := H1
             clear H1
             by_cases c19 : ((rd_T23 l1 x7_2).f0) = 6
             ·rw [if_pos c19] at H
              have c19b0 : (((rd_T23 l1 x7_2).f0) == 6) = true := beq_iff_eq.mpr c19
              have c19b1 : (((rd_T23 l1 x7_2).f0) != 6) = false := bne_eq_false_iff_eq.mpr c19
              clear c19
              simp only [Option.some.injEq, Prod.mk.injEq] at H
              obtain ⟨rfl, rfl, rfl⟩ := H
              have p127 : 0 ≤ (x7_2 : Int) := odx
              have q127 : x7_2 < (l1.length : Int) := odx
              obtain ⟨ad127, e127, hx127_0, hx127_1⟩ := at_T23 HR1.out x7_2 p127 q127
              cases e127
              replace hx127_0 := (HB.out.cell (World.block_lt_of_cell? w _ hx127_0)).trans hx127_0
              replace hx127_1 := (HB.out.cell (World.block_lt_of_cell? w _ hx127_1)).trans hx127_1
              replace p127 := eq_true p127
              replace q127 := eq_true q127
              go_wp2_with (first | ((with_reducible refine gate_callee (f := 19) rfl ?_); refine goesL_ (some 39) rfl rfl Tryd.func19 (by kernel_rfl) rfl #[.agg #[.int .i64 ((rd_T23 l1 x7_2).f0), .int .i64 ((rd_T23 l1 x7_2).f1)]] rfl agx ?_; (with_reducible refine (levyref1_Valid.calls ((rd_T23 l1 x7_2).f0) ((rd_T23 l1 x7_2).f1) true _ A17.out).mono ?_); rintro e w20 ⟨rfl, hb⟩; refine ⟨_, rfl, ?_⟩; replace BK120 := bkq BK120 hb; replace HB := Aside0.mk (below_step blx hb); (try clear hb); (try clear hb2); (try clear hk); (try clear hi); have p131 : 0 ≤ (x7_2 : Int) := odx; have q131 : x7_2 < (l1.length : Int) := odx; obtain ⟨ad131, e131, hx131_0, hx131_1⟩ := at_T23 HR1.out x7_2 p131 q131; obtain rfl : ad127 = ad131 := (by injection e131); replace hx131_0 := (HB.out.cell (World.block_lt_of_cell? w _ hx131_0)).trans hx131_0; replace hx131_1 := (HB.out.cell (World.block_lt_of_cell? w _ hx131_1)).trans hx131_1; replace p131 := eq_true p131; replace q131 := eq_true q131; have p132 : 0 ≤ (x7_2 : Int) := odx; have q132 : x7_2 < (l1.length : Int) := odx; obtain ⟨ad132, e132, hx132_0, hx132_1⟩ := at_T23 HR1.out x7_2 p132 q132; obtain rfl : ad127 = ad132 := (by injection e132); replace hx132_0 := (HB.out.cell (World.block_lt_of_cell? w _ hx132_0)).trans hx132_0; replace hx132_1 := (HB.out.cell (World.block_lt_of_cell? w _ hx132_1)).trans hx132_1; replace p132 := eq_true p132; replace q132 := eq_true q132; obtain ⟨hcz21_0, hcz21_1, hfz21_0, hfz21_1⟩ := c2_ BK120))
              refine bodyPost_ret (results_ct rfl _ _ gb120 23 #[.int .i64 ((rd_T23 l1 x7_2).f0), .int .i64 ((rd_T23 l1 x7_2).f1)] (0, 0) _ rfl (by (with_reducible repeat (first | refine blk_drewN ?_ _ | refine blk_drew ?_ | refine blk_alloc ?_ _)); refine blk_put (cs := #[.int .i64 ((rd_T23 l1 x7_2).f0), .int .i64 x121001_2]) ?_ 1 _ rfl; (with_reducible repeat (first | refine blk_drewN ?_ _ | refine blk_drew ?_ | refine blk_alloc ?_ _)); refine blk_put (cs := #[.int .i64 x121000_2, .int .i64 x121001_2]) ?_ 0 _ rfl; (with_reducible repeat (first | refine blk_drewN ?_ _ | refine blk_drew ?_ | refine blk_alloc ?_ _)); exact BK120.out) Tryd.underlying23 rfl (by kernel_rfl)) rfl ?_
              exact ⟨by first | rfl | (simp [errW_none, errW_some] <;> rfl) | (simp [*, errW_none, errW_some] <;> rfl), blx⟩
             ·rw [if_neg c19] at H
              have c19b0 : (((rd_T23 l1 x7_2).f0) == 6) = false := beq_eq_false_iff_ne.mpr c19
              have c19b1 : (((rd_T23 l1 x7_2).f0) != 6) = true := bne_iff_ne.mpr c19
              by_cases c22 : ((rd_T23 l1 x7_2).f0) = a0
              ·rw [if_pos c22] at H
               have c22b0 : (((rd_T23 l1 x7_2).f0) == a0) = true := beq_iff_eq.mpr c22
               have c22b1 : (((rd_T23 l1 x7_2).f0) != a0) = false := bne_eq_false_iff_eq.mpr c22
               clear c22
               have H' := Aside0.mk H
               clear H
               have p127 : 0 ≤ (x7_2 : Int) := odx
               have q127 : x7_2 < (l1.length : Int) := odx
               obtain ⟨ad127, e127, hx127_0, hx127_1⟩ := at_T23 HR1.out x7_2 p127 q127
               cases e127
               replace hx127_0 := (HB.out.cell (World.block_lt_of_cell? w _ hx127_0)).trans hx127_0
               replace hx127_1 := (HB.out.cell (World.block_lt_of_cell? w _ hx127_1)).trans hx127_1
               replace p127 := eq_true p127
               replace q127 := eq_true q127
               go_wp2_with (first | ((with_reducible refine gate_callee (f := 19) rfl ?_); refine goesL_ (some 39) rfl rfl Tryd.func19 (by kernel_rfl) rfl #[.agg #[.int .i64 ((rd_T23 l1 x7_2).f0), .int .i64 ((rd_T23 l1 x7_2).f1)]] rfl agx ?_; (with_reducible refine (levyref1_Valid.calls ((rd_T23 l1 x7_2).f0) ((rd_T23 l1 x7_2).f1) true _ A17.out).mono ?_); rintro e w23 ⟨rfl, hb⟩; refine ⟨_, rfl, ?_⟩; replace BK120 := bkq BK120 hb; replace HB := Aside0.mk (below_step blx hb); (try clear hb); (try clear hb2); (try clear hk); (try clear hi); have p131 : 0 ≤ (x7_2 : Int) := odx; have q131 : x7_2 < (l1.length : Int) := odx; obtain ⟨ad131, e131, hx131_0, hx131_1⟩ := at_T23 HR1.out x7_2 p131 q131; obtain rfl : ad127 = ad131 := (by injection e131); replace hx131_0 := (HB.out.cell (World.block_lt_of_cell? w _ hx131_0)).trans hx131_0; replace hx131_1 := (HB.out.cell (World.block_lt_of_cell? w _ hx131_1)).trans hx131_1; replace p131 := eq_true p131; replace q131 := eq_true q131; have p133 : 0 ≤ (x7_2 : Int) := odx; have q133 : x7_2 < (l1.length : Int) := odx; obtain ⟨ad133, e133, hx133_0, hx133_1⟩ := at_T23 HR1.out x7_2 p133 q133; obtain rfl : ad127 = ad133 := (by injection e133); replace hx133_0 := (HB.out.cell (World.block_lt_of_cell? w _ hx133_0)).trans hx133_0; replace hx133_1 := (HB.out.cell (World.block_lt_of_cell? w _ hx133_1)).trans hx133_1; replace p133 := eq_true p133; replace q133 := eq_true q133; have p134 : 0 ≤ (x7_2 : Int) := odx; have q134 : x7_2 < (l1.length : Int) := odx; obtain ⟨ad134, e134, hx134_0, hx134_1⟩ := at_T23 HR1.out x7_2 p134 q134; obtain rfl : ad127 = ad134 := (by injection e134); replace hx134_0 := (HB.out.cell (World.block_lt_of_cell? w _ hx134_0)).trans hx134_0; replace hx134_1 := (HB.out.cell (World.block_lt_of_cell? w _ hx134_1)).trans hx134_1; replace p134 := eq_true p134; replace q134 := eq_true q134))
               go_roundg kj10
               case measure => have := HJ2.out; have := HK2.out; have := HJ10.out; omega
               case rel => exact ⟨(wrap64 (x6_2 + ((rd_T23 l1 x7_2).f1))), (wrap64 (x7_2 + 1)), (x121000_2), (x121001_2), (by first | rfl | (simp; done) | (simp [*]; done)), (by first | rfl | (simp; done) | (simp [*]; done)), H', ⟨by have := HJ2.out; have := HK2.out; have := HJ10.out; omega⟩, ⟨bkx⟩, ⟨blx⟩⟩
              ·rw [if_neg c22] at H
               have c22b0 : (((rd_T23 l1 x7_2).f0) == a0) = false := beq_eq_false_iff_ne.mpr c22
               have c22b1 : (((rd_T23 l1 x7_2).f0) != a0) = true := bne_iff_ne.mpr c22
               replace H := Option.bind_eq_some_iff.mp H
               obtain ⟨⟨t135, t136⟩, A240, H⟩ := H
               replace H : (some (t135, t136, wrap64 (x7_2 + 1))) = some (r1, r2, r3) := H
               have A24 := Aside0.mk A240
               clear A240
               simp only [Option.some.injEq, Prod.mk.injEq] at H
               obtain ⟨rfl, rfl, rfl⟩ := H
               have p127 : 0 ≤ (x7_2 : Int) := odx
               have q127 : x7_2 < (l1.length : Int) := odx
               obtain ⟨ad127, e127, hx127_0, hx127_1⟩ := at_T23 HR1.out x7_2 p127 q127
               cases e127
               replace hx127_0 := (HB.out.cell (World.block_lt_of_cell? w _ hx127_0)).trans hx127_0
               replace hx127_1 := (HB.out.cell (World.block_lt_of_cell? w _ hx127_1)).trans hx127_1
               replace p127 := eq_true p127
               replace q127 := eq_true q127
               go_wp2_with (first | ((with_reducible refine gate_callee (f := 19) rfl ?_); refine goesL_ (some 39) rfl rfl Tryd.func19 (by kernel_rfl) rfl #[.agg #[.int .i64 ((rd_T23 l1 x7_2).f0), .int .i64 ((rd_T23 l1 x7_2).f1)]] rfl agx ?_; (with_reducible refine (levyref1_Valid.calls ((rd_T23 l1 x7_2).f0) ((rd_T23 l1 x7_2).f1) true _ A17.out).mono ?_); rintro e w25 ⟨rfl, hb⟩; refine ⟨_, rfl, ?_⟩; replace BK120 := bkq BK120 hb; replace HB := Aside0.mk (below_step blx hb); (try clear hb); (try clear hb2); (try clear hk); (try clear hi); have p131 : 0 ≤ (x7_2 : Int) := odx; have q131 : x7_2 < (l1.length : Int) := odx; obtain ⟨ad131, e131, hx131_0, hx131_1⟩ := at_T23 HR1.out x7_2 p131 q131; obtain rfl : ad127 = ad131 := (by injection e131); replace hx131_0 := (HB.out.cell (World.block_lt_of_cell? w _ hx131_0)).trans hx131_0; replace hx131_1 := (HB.out.cell (World.block_lt_of_cell? w _ hx131_1)).trans hx131_1; replace p131 := eq_true p131; replace q131 := eq_true q131; have p133 : 0 ≤ (x7_2 : Int) := odx; have q133 : x7_2 < (l1.length : Int) := odx; obtain ⟨ad133, e133, hx133_0, hx133_1⟩ := at_T23 HR1.out x7_2 p133 q133; obtain rfl : ad127 = ad133 := (by injection e133); replace hx133_0 := (HB.out.cell (World.block_lt_of_cell? w _ hx133_0)).trans hx133_0; replace hx133_1 := (HB.out.cell (World.block_lt_of_cell? w _ hx133_1)).trans hx133_1; replace p133 := eq_true p133; replace q133 := eq_true q133) | ((with_reducible refine gate_callee (f := 57) rfl ?_); refine goesL_ (some 63) rfl rfl Tryd.func57 (by kernel_rfl) rfl #[.int .i64 5] rfl agx ?_; (with_reducible refine (levyref1_bad.calls 5 t135 t136 _ A24.out).mono ?_); rintro e w26 ⟨rfl, hb⟩; refine ⟨_, rfl, ?_⟩; replace BK120 := bkq BK120 hb; replace HB := Aside0.mk (below_step blx hb); (try clear hb); (try clear hb2); (try clear hk); (try clear hi); obtain ⟨hcz27_0, hcz27_1, hfz27_0, hfz27_1⟩ := c2_ BK120))
               refine bodyPost_ret (results_ct rfl _ _ gb120 23 #[.int .i64 t135, .int .i64 t136] (0, 0) _ rfl (by (with_reducible repeat (first | refine blk_drewN ?_ _ | refine blk_drew ?_ | refine blk_alloc ?_ _)); refine blk_put (cs := #[.int .i64 t135, .int .i64 x121001_2]) ?_ 1 _ rfl; (with_reducible repeat (first | refine blk_drewN ?_ _ | refine blk_drew ?_ | refine blk_alloc ?_ _)); refine blk_put (cs := #[.int .i64 x121000_2, .int .i64 x121001_2]) ?_ 0 _ rfl; (with_reducible repeat (first | refine blk_drewN ?_ _ | refine blk_drew ?_ | refine blk_alloc ?_ _)); exact BK120.out) Tryd.underlying23 rfl (by kernel_rfl)) rfl ?_
               exact ⟨by first | rfl | (simp [errW_none, errW_some] <;> rfl) | (simp [*, errW_none, errW_some] <;> rfl), blx⟩
            ·replace c18 := Bool.eq_false_iff.mpr c18
             subst c18
             have H1 : ((levyref1_bad.f 5).bind fun bt129 => (some (bt129.1, bt129.2, wrap64 (x7_2 + 1)))) = some (r1, r2, r3) := by rw [if_neg (show ¬ (false = true) by decide)] at H; exact H
             clear H
             have H := H1
             clear H1
             replace H := Option.bind_eq_some_iff.mp H
             obtain ⟨⟨t129, t130⟩, A280, H⟩ := H
             replace H : (some (t129, t130, wrap64 (x7_2 + 1))) = some (r1, r2, r3) := H
             have A28 := Aside0.mk A280
             clear A280
             simp only [Option.some.injEq, Prod.mk.injEq] at H
             obtain ⟨rfl, rfl, rfl⟩ := H
             have p127 : 0 ≤ (x7_2 : Int) := odx
             have q127 : x7_2 < (l1.length : Int) := odx
             obtain ⟨ad127, e127, hx127_0, hx127_1⟩ := at_T23 HR1.out x7_2 p127 q127
             cases e127
             replace hx127_0 := (HB.out.cell (World.block_lt_of_cell? w _ hx127_0)).trans hx127_0
             replace hx127_1 := (HB.out.cell (World.block_lt_of_cell? w _ hx127_1)).trans hx127_1
             replace p127 := eq_true p127
             replace q127 := eq_true q127
             go_wp2_with (first | ((with_reducible refine gate_callee (f := 19) rfl ?_); refine goesL_ (some 39) rfl rfl Tryd.func19 (by kernel_rfl) rfl #[.agg #[.int .i64 ((rd_T23 l1 x7_2).f0), .int .i64 ((rd_T23 l1 x7_2).f1)]] rfl agx ?_; (with_reducible refine (levyref1_Valid.calls ((rd_T23 l1 x7_2).f0) ((rd_T23 l1 x7_2).f1) false _ A17.out).mono ?_); rintro e w29 ⟨rfl, hb⟩; refine ⟨_, rfl, ?_⟩; replace BK120 := bkq BK120 hb; replace HB := Aside0.mk (below_step blx hb); (try clear hb); (try clear hb2); (try clear hk); (try clear hi)) | ((with_reducible refine gate_callee (f := 57) rfl ?_); refine goesL_ (some 41) rfl rfl Tryd.func57 (by kernel_rfl) rfl #[.int .i64 5] rfl agx ?_; (with_reducible refine (levyref1_bad.calls 5 t129 t130 _ A28.out).mono ?_); rintro e w30 ⟨rfl, hb⟩; refine ⟨_, rfl, ?_⟩; replace BK120 := bkq BK120 hb; replace HB := Aside0.mk (below_step blx hb); (try clear hb); (try clear hb2); (try clear hk); (try clear hi); obtain ⟨hcz31_0, hcz31_1, hfz31_0, hfz31_1⟩ := c2_ BK120))
             refine bodyPost_ret (results_ct rfl _ _ gb120 23 #[.int .i64 t129, .int .i64 t130] (0, 0) _ rfl (by (with_reducible repeat (first | refine blk_drewN ?_ _ | refine blk_drew ?_ | refine blk_alloc ?_ _)); refine blk_put (cs := #[.int .i64 t129, .int .i64 x121001_2]) ?_ 1 _ rfl; (with_reducible repeat (first | refine blk_drewN ?_ _ | refine blk_drew ?_ | refine blk_alloc ?_ _)); refine blk_put (cs := #[.int .i64 x121000_2, .int .i64 x121001_2]) ?_ 0 _ rfl; (with_reducible repeat (first | refine blk_drewN ?_ _ | refine blk_drew ?_ | refine blk_alloc ?_ _)); exact BK120.out) Tryd.underlying23 rfl (by kernel_rfl)) rfl ?_
             exact ⟨by first | rfl | (simp [errW_none, errW_some] <;> rfl) | (simp [*, errW_none, errW_some] <;> rfl), blx⟩
           ·rw [if_neg c16] at H
            exact absurd H (by simp)
          ·rw [if_neg c15] at H
           exact absurd H (by simp)
      ·rw [if_neg c10] at H
       have c10b0 : decide (x7_2 < (l1.length : Int)) = false := decide_eq_false c10
       clear c10
       replace H := Option.bind_eq_some_iff.mp H
       obtain ⟨⟨t123, t124⟩, A320, H⟩ := H
       replace H : (some (t123, t124, (l1.length : Int))) = some (r1, r2, r3) := H
       have A32 := Aside0.mk A320
       clear A320
       simp only [Option.some.injEq, Prod.mk.injEq] at H
       obtain ⟨rfl, rfl, rfl⟩ := H
       go_wp2_with (first | ((with_reducible refine gate_callee (f := 58) rfl ?_); refine goesL_ (some 75) rfl rfl Tryd.func58 (by kernel_rfl) rfl #[.int .i64 a0, .int .i64 x6_2] rfl agx ?_; (with_reducible refine (levyref1_bounded.calls a0 x6_2 t123 t124 _ A32.out).mono ?_); rintro e w33 ⟨rfl, hb⟩; refine ⟨_, rfl, ?_⟩; replace BK120 := bkq BK120 hb; replace HB := Aside0.mk (below_step blx hb); (try clear hb); (try clear hb2); (try clear hk); (try clear hi); obtain ⟨hcz34_0, hcz34_1, hfz34_0, hfz34_1⟩ := c2_ BK120))
       refine bodyPost_ret (results_ct rfl _ _ gb120 23 #[.int .i64 t123, .int .i64 t124] (0, 0) _ rfl (by (with_reducible repeat (first | refine blk_drewN ?_ _ | refine blk_drew ?_ | refine blk_alloc ?_ _)); refine blk_put (cs := #[.int .i64 t123, .int .i64 x121001_2]) ?_ 1 _ rfl; (with_reducible repeat (first | refine blk_drewN ?_ _ | refine blk_drew ?_ | refine blk_alloc ?_ _)); refine blk_put (cs := #[.int .i64 x121000_2, .int .i64 x121001_2]) ?_ 0 _ rfl; (with_reducible repeat (first | refine blk_drewN ?_ _ | refine blk_drew ?_ | refine blk_alloc ?_ _)); exact BK120.out) Tryd.underlying23 rfl (by kernel_rfl)) rfl ?_
       exact ⟨by first | rfl | (simp [errW_none, errW_some] <;> rfl) | (simp [*, errW_none, errW_some] <;> rfl), blx⟩
end Go.Proofs.YtnjhjaifmgjljaaDoor.PM
end

section
namespace Go.Proofs.YtnjhjaifmgjljaaDoor.Q
open Go.RowKit Go.Proofs.YtnjhjaifmgjljaaDoor.PM Go.Proofs.YtnjhjaifmgjljaaDoorW.PrintWords Go.Proofs.YtnjhjaifmgjljaaDoorW.PrintLast Go.Proofs.YtnjhjaifmgjljaaDoorW.PrintMore
def vld (a b : Int) : Bool :=
  if a = 0 then b == 0 else if a = 1 then decide (-9999999999999 ≤ b ∧ b ≤ 9999999999999) else if a = 2 then decide (-1000000000 ≤ b ∧ b ≤ 1000000000)
  else if a = 3 then decide (0 ≤ b ∧ b ≤ 1) else if a = 4 then decide (0 ≤ b ∧ b ≤ 109572) else if a = 5 then decide (0 ≤ b ∧ b ≤ 7) else if a = 6 then decide (1 ≤ b ∧ b ≤ 5) else false
theorem seven {a : Int} (h0 : 0 ≤ a) (h1 : a ≤ 6) : a = 0 ∨ a = 1 ∨ a = 2 ∨ a = 3 ∨ a = 4 ∨ a = 5 ∨ a = 6 := by omega
theorem money_valid (a b : Int) : money_Valid.f a b = some (vld a b) := by
  unfold money_Valid.f
  by_cases h0 : a ≥ 0
  · by_cases h1 : a ≤ 6
    · rw [if_pos h0, if_pos h1, if_pos h0, if_pos (by omega)]
      rcases seven h0 h1 with rfl | rfl | rfl | rfl | rfl | rfl | rfl <;> simp [rd_T87, gtab0, vld] <;> (try split) <;> (try rw [Option.some.injEq, Bool.eq_iff_iff]) <;> simp <;> omega
    · rw [if_pos h0, if_neg h1]
      unfold vld
      simp [show ¬ a = 0 by omega, show ¬ a = 1 by omega, show ¬ a = 2 by omega, show ¬ a = 3 by omega, show ¬ a = 4 by omega, show ¬ a = 5 by omega, show ¬ a = 6 by omega]
  · rw [if_neg h0]
    unfold vld
    simp [show ¬ a = 0 by omega, show ¬ a = 1 by omega, show ¬ a = 2 by omega, show ¬ a = 3 by omega, show ¬ a = 4 by omega, show ¬ a = 5 by omega, show ¬ a = 6 by omega]
theorem within (a b c : Int) : levyref1_within.f a b c = some (decide (b ≤ a ∧ a ≤ c)) := by
  unfold levyref1_within.f
  by_cases h : b ≤ a <;> simp [h]
theorem ref_valid (a b : Int) : levyref1_Valid.f a b = some (vld a b) := by
  unfold levyref1_Valid.f vld
  simp only [within, Option.bind_some]
  repeat' split
  all_goals rfl
def flt : List S23 → Option (Int × Int)
  | [] => none
  | v :: l => if vld v.f0 v.f1 = false then some (6, 5) else if v.f0 = 6 then some (v.f0, v.f1) else if v.f0 = 0 then some (6, 3) else flt l
theorem drop_cons {l : List S23} {i : Nat} (h : i < l.length) : l.drop i = rd_T23 l i :: l.drop (i + 1) := by
  rw [List.drop_eq_getElem_cons h]
  simp [rd_T23, List.getD_eq_getElem?_getD, List.getElem?_eq_getElem h]
theorem wrap_next {i n : Nat} (h : i < n) (hn : n ≤ 1000000000) : wrap64 ((i : Int) + 1) = ((i + 1 : Nat) : Int) := by unfold wrap64; omega
def seenR (o : Option (Int × Int)) : Int × Int × Bool := match o with | some v => (v.1, v.2, false) | none => (0, 0, true)
theorem seen_from (l : List S23) (hl : l.length ≤ 1000000000) : ∀ (d k i : Nat), i + d = l.length → d < k → money_seen.l0 k l (l.length : Int) (i : Int) = some (seenR (flt (l.drop i)))
  | 0, k + 1, i, hd, _ => by
    simp only [money_seen.l0]
    rw [if_neg (by omega), List.drop_of_length_le (by omega)]; rfl
  | d + 1, k + 1, i, hd, hk => by
    have ih := seen_from l hl d k (i + 1) (by omega) (by omega)
    simp only [money_seen.l0]
    rw [if_pos (by omega), if_pos (by omega), if_pos (by omega), drop_cons (by omega), money_valid, wrap_next (n := l.length) (by omega) hl, ih]
    simp only [Option.bind_some, flt, money_fault.f]
    generalize rd_T23 l (i : Int) = v
    cases hv : vld v.f0 v.f1
    · simp [seenR]
    · by_cases h6 : v.f0 = 6
      · simp [h6, seenR]
      · by_cases h0 : v.f0 = 0 <;> simp [h6, h0, seenR]
  | _, 0, _, _, hk => by omega
theorem seen_is (l : List S23) (hl : l.length ≤ 1000000000) (k : Nat) (hk : l.length < k) : money_seen.f k l = some (seenR (flt l)) := by
  unfold money_seen.f
  simpa using seen_from l hl l.length k 0 (by omega) hk
def takes (call a : Int) : Bool :=
  if call = 1 then (a == 1 || a == 2) else if call = 2 then (a == 1 || a == 2 || a == 4) else (a == 1 || a == 2 || a == 3 || a == 4 || a == 5)
theorem takes_bits (call a : Int) (hc : call = 1 ∨ call = 2 ∨ call = 4) (h0 : 0 ≤ a) (h1 : a ≤ 6) :
    (Go.bits .and .i64 ((rd_T87 gtab0 a).f2) call = 0) = (takes call a = false) := by
  rcases hc with rfl | rfl | rfl <;> rcases seven h0 h1 with rfl | rfl | rfl | rfl | rfl | rfl | rfl <;> decide +kernel
theorem flt_none {l : List S23} (h : flt l = none) : ∀ v ∈ l, 1 ≤ v.f0 ∧ v.f0 ≤ 5 ∧ vld v.f0 v.f1 = true := by
  induction l with
  | nil => simp
  | cons u l ih =>
    simp only [flt] at h
    split at h
    · cases h
    · split at h
      · cases h
      · split at h
        · cases h
        · rename_i hv h6 h0
          intro v hm
          rcases List.mem_cons.1 hm with rfl | hm
          · have hv' : vld v.f0 v.f1 = true := by simpa using hv
            refine ⟨?_, ?_, hv'⟩
            · by_cases hh : 1 ≤ v.f0
              · exact hh
              · unfold vld at hv'
                rw [if_neg h0, if_neg (by omega), if_neg (by omega), if_neg (by omega), if_neg (by omega), if_neg (by omega), if_neg h6] at hv'
                cases hv'
            · by_cases hh : v.f0 ≤ 5
              · exact hh
              · unfold vld at hv'
                rw [if_neg h0, if_neg (by omega), if_neg (by omega), if_neg (by omega), if_neg (by omega), if_neg (by omega), if_neg h6] at hv'
                cases hv'
          · exact ih h v hm
def same (call : Int) (h : Int) (l : List S23) : Bool := l.all fun v => v.f0 == h && takes call v.f0
theorem rd_mem {l : List S23} {i : Nat} (h : i < l.length) : rd_T23 l i ∈ l := by
  have : rd_T23 l i = l[i] := by simp [rd_T23, List.getD_eq_getElem?_getD, List.getElem?_eq_getElem h]
  rw [this]; exact List.getElem_mem h
theorem alike_from (call : Int) (hc : call = 1 ∨ call = 2 ∨ call = 4) (l : List S23) (hl : l.length ≤ 1000000000) (hf : flt l = none) :
    ∀ (d k i : Nat), i + d = l.length → d < k → money_alike.l0 k call l l (l.length : Int) (i : Int) = some (if same call (rd_T23 l 0).f0 (l.drop i) then (0, 0, true) else (6, 5, false))
  | 0, k + 1, i, hd, _ => by
    simp only [money_alike.l0]
    rw [if_neg (by omega), List.drop_of_length_le (by omega)]; rfl
  | d + 1, k + 1, i, hd, hk => by
    have ih := alike_from call hc l hl hf d k (i + 1) (by omega) (by omega)
    have hm := flt_none hf _ (rd_mem (l := l) (i := i) (by omega))
    simp only [money_alike.l0]
    rw [if_pos (by omega), if_pos (by omega), if_pos (by omega), if_pos (by omega), drop_cons (by omega), wrap_next (n := l.length) (by omega) hl, ih]
    have ht := takes_bits call (rd_T23 l (i : Int)).f0 hc (by omega) (by omega)
    simp only [same, List.all_cons, money_fault.f, Option.bind_some]
    by_cases h1 : (rd_T23 l (i : Int)).f0 = (rd_T23 l 0).f0
    · rw [if_pos h1, if_pos (by omega), if_pos (by omega)]
      by_cases hb : takes call (rd_T23 l (i : Int)).f0 = false
      · rw [if_pos (ht.mpr hb)]; simp [hb]
      · rw [if_neg (fun e => hb (ht.mp e))]
        have hb' : takes call (rd_T23 l (i : Int)).f0 = true := by simpa using hb
        simp [h1 ▸ hb', h1]
    · rw [if_neg h1]; simp [h1]
  | _, 0, _, _, hk => by omega
def boundS (a n : Int) : Int × Int := if vld a n then (a, n) else (6, 1)
def chosenS (call : Int) (l : List S23) (n : Int) : Int × Int := match flt l with | some v => v | none => if same call (rd_T23 l 0).f0 l then boundS (rd_T23 l 0).f0 n else (6, 5)
def alikeS (call : Int) (l : List S23) : Int × Int × Bool := match flt l with | some v => (v.1, v.2, false) | none => if same call (rd_T23 l 0).f0 l then (0, 0, true) else (6, 5, false)
theorem alike_is (call : Int) (hc : call = 1 ∨ call = 2 ∨ call = 4) (l : List S23) (hl : l.length ≤ 1000000000) (k : Nat) (hk : l.length < k) : money_alike.f k call l = some (alikeS call l) := by
  unfold money_alike.f
  rw [seen_is l hl k hk]
  simp only [Option.bind_some, alikeS]
  cases hf : flt l with
  | some v => simp [seenR]
  | none =>
    simp only [seenR]
    have := alike_from call hc l hl hf l.length k 0 (by omega) hk
    simpa using this
def listed (call : Int) : List Int := if call = 1 then [1, 2] else if call = 2 then [1, 2, 4] else [1, 2, 3, 4, 5]
theorem bounded_is (a n : Int) : levyref1_bounded.f a n = some (boundS a n) := by
  unfold levyref1_bounded.f boundS
  rw [ref_valid]
  simp only [Option.bind_some, levyref1_bad.f]
  split <;> rfl
theorem checked_is (a n : Int) (h0 : 0 ≤ a) (h1 : a ≤ 6) : money_checked.f a n = some (boundS a n) := by
  unfold money_checked.f boundS
  rw [if_pos h0, if_pos (by omega)]
  simp only [money_fault.f, Option.bind_some]
  rcases seven h0 h1 with rfl | rfl | rfl | rfl | rfl | rfl | rfl <;> simp [rd_T87, gtab0, vld] <;> (repeat' split) <;> first | rfl | omega | (exfalso; omega)
end Go.Proofs.YtnjhjaifmgjljaaDoor.Q
end

section
namespace Go.Proofs.YtnjhjaifmgjljaaDoor.PM
open Go.RowKit Go.Proofs.YtnjhjaifmgjljaaDoorW.PrintWords Go.Proofs.YtnjhjaifmgjljaaDoorW.PrintLast Go.Proofs.YtnjhjaifmgjljaaDoorW.PrintMore
attribute [local go_sem] max2_int min2_int max_two min_two max_three min_three max_four min_four
set_option linter.unusedVariables false
set_option linter.unusedSimpArgs false
theorem eqA23 (d : Nat) (w : World) (x0 y0 : Int) (x1 y1 : Int) :
    (Op.equalIn (d + 2) 23 (.agg #[.int .i64 x0, .int .i64 x1]) (.agg #[.int .i64 y0, .int .i64 y1])).run Tryd.prog w = .ok (x0 == y0 && (x1 == y1)) w := by
  refine eqA_of Tryd.underlying23 (by kernel_rfl) ?_
  refine eqf_cons (by rfl) (by go_simp; rfl) (by go_simp; rfl) (by go_simp) ?_
  exact eqf_last (by rfl) (by go_simp; rfl) (by go_simp; rfl) (by go_simp)
end Go.Proofs.YtnjhjaifmgjljaaDoor.PM
end

section
namespace Go.Proofs.YtnjhjaifmgjljaaDoor.PM
open Go.RowKit Go.Proofs.YtnjhjaifmgjljaaDoorW.PrintWords Go.Proofs.YtnjhjaifmgjljaaDoorW.PrintLast Go.Proofs.YtnjhjaifmgjljaaDoorW.PrintMore
attribute [local go_sem] max2_int min2_int max_two min_two max_three min_three max_four min_four
set_option linter.unusedVariables false
set_option linter.unusedSimpArgs false
def levylaw1_c.f (a0 : Int) : Option (Int × Int) := some (1, a0)
set_option maxHeartbeats 8000000 in
set_option maxRecDepth 100000 in
theorem levylaw1_c.calls (a0 : Int) (r1 : Int) (r2 : Int) (w : World) (h : levylaw1_c.f a0 = some (r1, r2)) :
  Calls Tryd.prog 52 #[.int .i64 a0] w fun e w' => e = .returned (.agg #[.int .i64 r1, .int .i64 r2]) ∧ Below w.heap.size w w' := by
 have hu23 := Tryd.underlying23
 have HB := Aside0.mk (Below.refl w.heap.size w)
 have H : (some (1, a0)) = some (r1, r2) := h
 clear h
 simp only [Option.some.injEq, Prod.mk.injEq] at H
 obtain ⟨rfl, rfl⟩ := H
 go_enter Tryd.func52, Tryd.ntmps52
 go_wp2_with (first | ((with_reducible refine gate_dst (N := 2) rfl ?_); refine bxe (N := 2) (cs := #[.int .i64 0, .int .i64 0]) (t := 23) ?_; intro gb775 hg w2 hbox hb; have BK775 := Aside0.mk (hbox); have GW775 : Aside0 (w.heap.size ≤ gb775) := gwx hg; have GE775 : Aside0 (w.heap.size ≤ gb775) := gwx hg; replace HB := Aside0.mk (below_step blx hb); clear hb hbox hg; obtain ⟨hcz3_0, hcz3_1, hfz3_0, hfz3_1⟩ := c2_ BK775))
 refine bodyPost_ret (results_cell_row rfl _ _ gb775 23 #[.int .i64 1, .int .i64 a0] (0, 0) _ rfl (by (with_reducible repeat (first | refine blk_drewN ?_ _ | refine blk_drew ?_ | refine blk_alloc ?_ _)); refine blk_put (cs := #[.int .i64 1, .int .i64 0]) ?_ 1 _ rfl; (with_reducible repeat (first | refine blk_drewN ?_ _ | refine blk_drew ?_ | refine blk_alloc ?_ _)); refine blk_put (cs := #[.int .i64 0, .int .i64 0]) ?_ 0 _ rfl; (with_reducible repeat (first | refine blk_drewN ?_ _ | refine blk_drew ?_ | refine blk_alloc ?_ _)); exact BK775.out) Tryd.underlying23 rfl (by kernel_rfl)) rfl ?_
 exact ⟨by first | rfl | (simp [errW_none, errW_some] <;> rfl) | (simp [*, errW_none, errW_some] <;> rfl), blx⟩
end Go.Proofs.YtnjhjaifmgjljaaDoor.PM
end

section
namespace Go.Proofs.YtnjhjaifmgjljaaDoor.PM
open Go.RowKit Go.Proofs.YtnjhjaifmgjljaaDoorW.PrintWords Go.Proofs.YtnjhjaifmgjljaaDoorW.PrintLast Go.Proofs.YtnjhjaifmgjljaaDoorW.PrintMore
attribute [local go_sem] max2_int min2_int max_two min_two max_three min_three max_four min_four
set_option linter.unusedVariables false
set_option linter.unusedSimpArgs false
attribute [local go_sem high] eqA23
mutual
def levylaw1_known.j0 : Nat → Bool → Option (Bool)
 | 0, _ => none
 | k + 1, x1 => (levylaw1_c.f 105).bind fun bt790 => ((money_Scale.f k bt790.1 bt790.2 1 10 5).bind fun bt792 => ((levylaw1_c.f 10).bind fun bt794 => (if (bt792.1 == bt794.1 && (bt792.2 == bt794.2)) = true then ((levylaw1_c.f (-105)).bind fun bt796 => ((money_Scale.f k bt796.1 bt796.2 1 10 1).bind fun bt798 => ((levylaw1_c.f (-11)).bind fun bt800 => (if (bt798.1 == bt800.1 && (bt798.2 == bt800.2)) = true then ((levylaw1_c.f 1).bind fun bt802 => ((money_Split.f k bt802.1 bt802.2 2 0 2).bind fun bt804 => (levylaw1_known.j1 k x1 (bt804.1 == 6 && (bt804.2 == 2))))) else (levylaw1_known.j1 k x1 false))))) else (levylaw1_known.j1 k x1 false))))
def levylaw1_known.j1 : Nat → Bool → Bool → Option (Bool)
 | 0, _, _ => none
 | k + 1, x1, x2 => if x1 = true then (if x2 = true then ((levylaw1_c.f 1000002).bind fun bt809 => ((money_Bracket.f k (([(⟨0, 100000⟩ : S72), (⟨1000000, 250000⟩ : S72)] : List (S72))) bt809.1 bt809.2).bind fun bt811 => ((levylaw1_c.f 100001).bind fun bt813 => (if (bt811.1 == bt813.1 && (bt811.2 == bt813.2)) = true then ((levylaw1_c.f 5).bind fun bt815 => ((money_Valid.f bt815.1 bt815.2).bind fun t817 => (if t817 = true then ((money_Valid.f 7 0).bind fun t818 => (some (!t818))) else (some false)))) else (some false))))) else (some false)) else (some false)
end
def levylaw1_known.f (k : Nat)  : Option (Bool) := (levylaw1_c.f 2).bind fun bt776 => ((levylaw1_c.f 3).bind fun bt778 => ((money_Add.f k bt776.1 bt776.2 bt778.1 bt778.2).bind fun bt780 => ((levylaw1_c.f 5).bind fun bt782 => (if (bt780.1 == bt782.1 && (bt780.2 == bt782.2)) = true then ((levylaw1_c.f 9999999999999).bind fun bt784 => ((levylaw1_c.f 1).bind fun bt786 => ((money_Add.f k bt784.1 bt784.2 bt786.1 bt786.2).bind fun bt788 => (levylaw1_known.j0 k (bt788.1 == 6 && (bt788.2 == 1)))))) else (levylaw1_known.j0 k false)))))
theorem levylaw1_known.mono_l : ∀ k, (∀ y0, LeO (levylaw1_known.j0 k y0) (levylaw1_known.j0 (k + 1) y0)) ∧ (∀ y0 y1, LeO (levylaw1_known.j1 k y0 y1) (levylaw1_known.j1 (k + 1) y0 y1))
 | 0 => ⟨fun _ r h => by simp [levylaw1_known.j0] at h, fun _ _ r h => by simp [levylaw1_known.j1] at h⟩
 | k + 1 => by
  obtain ⟨ih0, ih1⟩ := levylaw1_known.mono_l k
  refine ⟨?_, ?_⟩
  ·intro y0
   unfold levylaw1_known.j0
   repeat' first
   | (with_reducible exact ih0 _)
   | (with_reducible exact ih1 _ _)
   | (with_reducible exact money_Add.mono _ _ _ _ _)
   | (with_reducible exact money_Bracket.mono _ _ _ _)
   | (with_reducible exact money_Scale.mono _ _ _ _ _ _)
   | (with_reducible exact money_Split.mono _ _ _ _ _ _)
   | (with_reducible exact LeO.refl _)
   | (with_reducible exact LeO.none _)
   | (with_reducible refine LeO.ite ?_ ?_)
   | (with_reducible refine LeO.bind ?_ (fun _ => ?_))
   | exact ih0 _
   | exact ih1 _ _
   | exact money_Add.mono _ _ _ _ _
   | exact money_Bracket.mono _ _ _ _
   | exact money_Scale.mono _ _ _ _ _ _
   | exact money_Split.mono _ _ _ _ _ _
   | exact LeO.none _
   | refine LeO.ite ?_ ?_
   | refine LeO.bind ?_ (fun _ => ?_)
  ·intro y0 y1
   unfold levylaw1_known.j1
   repeat' first
   | (with_reducible exact ih0 _)
   | (with_reducible exact ih1 _ _)
   | (with_reducible exact money_Add.mono _ _ _ _ _)
   | (with_reducible exact money_Bracket.mono _ _ _ _)
   | (with_reducible exact money_Scale.mono _ _ _ _ _ _)
   | (with_reducible exact money_Split.mono _ _ _ _ _ _)
   | (with_reducible exact LeO.refl _)
   | (with_reducible exact LeO.none _)
   | (with_reducible refine LeO.ite ?_ ?_)
   | (with_reducible refine LeO.bind ?_ (fun _ => ?_))
   | exact ih0 _
   | exact ih1 _ _
   | exact money_Add.mono _ _ _ _ _
   | exact money_Bracket.mono _ _ _ _
   | exact money_Scale.mono _ _ _ _ _ _
   | exact money_Split.mono _ _ _ _ _ _
   | exact LeO.none _
   | refine LeO.ite ?_ ?_
   | refine LeO.bind ?_ (fun _ => ?_)
theorem levylaw1_known.mono : ∀ k, LeO (levylaw1_known.f k ) (levylaw1_known.f (k + 1) ) := by
 intro  k
 obtain ⟨ih0, ih1⟩ := levylaw1_known.mono_l k
 unfold levylaw1_known.f
 repeat' first
   | (with_reducible exact ih0 _)
   | (with_reducible exact ih1 _ _)
   | (with_reducible exact money_Add.mono _ _ _ _ _)
   | (with_reducible exact money_Bracket.mono _ _ _ _)
   | (with_reducible exact money_Scale.mono _ _ _ _ _ _)
   | (with_reducible exact money_Split.mono _ _ _ _ _ _)
   | (with_reducible exact LeO.refl _)
   | (with_reducible exact LeO.none _)
   | (with_reducible refine LeO.ite ?_ ?_)
   | (with_reducible refine LeO.bind ?_ (fun _ => ?_))
   | exact ih0 _
   | exact ih1 _ _
   | exact money_Add.mono _ _ _ _ _
   | exact money_Bracket.mono _ _ _ _
   | exact money_Scale.mono _ _ _ _ _ _
   | exact money_Split.mono _ _ _ _ _ _
   | exact LeO.none _
   | refine LeO.ite ?_ ?_
   | refine LeO.bind ?_ (fun _ => ?_)
set_option maxHeartbeats 8000000 in
set_option maxRecDepth 100000 in
theorem levylaw1_known.calls (k : Nat)  (r : Bool) (w : World) (h : levylaw1_known.f k  = some r) (hg0 : Kd.C k87 w (some ⟨0, 0, none⟩) gtab0.length gtab0) :
  Calls Tryd.prog 51 #[] w fun e w' => e = .returned (.bool r) ∧ Below w.heap.size w w' := by
 have HG0 := Aside0.mk hg0
 clear hg0
 have hu23 := Tryd.underlying23
 have hu72 := Tryd.underlying72
 have HB := Aside0.mk (Below.refl w.heap.size w)
 have H : ((levylaw1_c.f 2).bind fun bt776 => ((levylaw1_c.f 3).bind fun bt778 => ((money_Add.f k bt776.1 bt776.2 bt778.1 bt778.2).bind fun bt780 => ((levylaw1_c.f 5).bind fun bt782 => (if (bt780.1 == bt782.1 && (bt780.2 == bt782.2)) = true then ((levylaw1_c.f 9999999999999).bind fun bt784 => ((levylaw1_c.f 1).bind fun bt786 => ((money_Add.f k bt784.1 bt784.2 bt786.1 bt786.2).bind fun bt788 => (levylaw1_known.j0 k (bt788.1 == 6 && (bt788.2 == 1)))))) else (levylaw1_known.j0 k false)))))) = some r := h
 clear h
 have HC1 := Aside0.mk H
 clear H
 go_enter Tryd.func51, Tryd.ntmps51
 go_upto_region 1 with (fail)
 go_cut [1] (fun v1 wc => ∃ (kq : Nat) (x1_0 : Bool), v1 = .bool x1_0 ∧ Aside0 (levylaw1_known.j0 kq x1_0 = some r) ∧ Aside0 (kq ≤ k) ∧ Aside0 (Below w.heap.size w wc))
 case first =>
  have H := HC1.out
  clear HC1
  replace H := Option.bind_eq_some_iff.mp H
  obtain ⟨⟨t776, t777⟩, A20, H⟩ := H
  replace H : ((levylaw1_c.f 3).bind fun bt778 => ((money_Add.f k t776 t777 bt778.1 bt778.2).bind fun bt780 => ((levylaw1_c.f 5).bind fun bt782 => (if (bt780.1 == bt782.1 && (bt780.2 == bt782.2)) = true then ((levylaw1_c.f 9999999999999).bind fun bt784 => ((levylaw1_c.f 1).bind fun bt786 => ((money_Add.f k bt784.1 bt784.2 bt786.1 bt786.2).bind fun bt788 => (levylaw1_known.j0 k (bt788.1 == 6 && (bt788.2 == 1)))))) else (levylaw1_known.j0 k false))))) = some r := H
  have A2 := Aside0.mk A20
  clear A20
  replace H := Option.bind_eq_some_iff.mp H
  obtain ⟨⟨t778, t779⟩, A30, H⟩ := H
  replace H : ((money_Add.f k t776 t777 t778 t779).bind fun bt780 => ((levylaw1_c.f 5).bind fun bt782 => (if (bt780.1 == bt782.1 && (bt780.2 == bt782.2)) = true then ((levylaw1_c.f 9999999999999).bind fun bt784 => ((levylaw1_c.f 1).bind fun bt786 => ((money_Add.f k bt784.1 bt784.2 bt786.1 bt786.2).bind fun bt788 => (levylaw1_known.j0 k (bt788.1 == 6 && (bt788.2 == 1)))))) else (levylaw1_known.j0 k false)))) = some r := H
  have A3 := Aside0.mk A30
  clear A30
  replace H := Option.bind_eq_some_iff.mp H
  obtain ⟨⟨t780, t781⟩, A40, H⟩ := H
  replace H : ((levylaw1_c.f 5).bind fun bt782 => (if (t780 == bt782.1 && (t781 == bt782.2)) = true then ((levylaw1_c.f 9999999999999).bind fun bt784 => ((levylaw1_c.f 1).bind fun bt786 => ((money_Add.f k bt784.1 bt784.2 bt786.1 bt786.2).bind fun bt788 => (levylaw1_known.j0 k (bt788.1 == 6 && (bt788.2 == 1)))))) else (levylaw1_known.j0 k false))) = some r := H
  have A4 := Aside0.mk A40
  clear A40
  replace H := Option.bind_eq_some_iff.mp H
  obtain ⟨⟨t782, t783⟩, A50, H⟩ := H
  replace H : (if (t780 == t782 && (t781 == t783)) = true then ((levylaw1_c.f 9999999999999).bind fun bt784 => ((levylaw1_c.f 1).bind fun bt786 => ((money_Add.f k bt784.1 bt784.2 bt786.1 bt786.2).bind fun bt788 => (levylaw1_known.j0 k (bt788.1 == 6 && (bt788.2 == 1)))))) else (levylaw1_known.j0 k false)) = some r := H
  have A5 := Aside0.mk A50
  clear A50
  by_cases c6 : (t780 == t782 && (t781 == t783)) = true
  ·rw [if_pos c6] at H
   have c6b0 : (t780 == t782 && (t781 == t783)) = true := c6
   (try (have c6b1 : decide (t780 = t782 && (t781 == t783)) = true := by simpa using c6))
   (try (have c6b2 : (t780 == t782 && (t781 == t783)) = true := by simpa using c6))
   clear c6
   (first | rw [c6b0] | (simp only [i64_w, i32_w]; rw [c6b0]) | skip)
   replace H := Option.bind_eq_some_iff.mp H
   obtain ⟨⟨t784, t785⟩, A70, H⟩ := H
   replace H : ((levylaw1_c.f 1).bind fun bt786 => ((money_Add.f k t784 t785 bt786.1 bt786.2).bind fun bt788 => (levylaw1_known.j0 k (bt788.1 == 6 && (bt788.2 == 1))))) = some r := H
   have A7 := Aside0.mk A70
   clear A70
   replace H := Option.bind_eq_some_iff.mp H
   obtain ⟨⟨t786, t787⟩, A80, H⟩ := H
   replace H : ((money_Add.f k t784 t785 t786 t787).bind fun bt788 => (levylaw1_known.j0 k (bt788.1 == 6 && (bt788.2 == 1)))) = some r := H
   have A8 := Aside0.mk A80
   clear A80
   replace H := Option.bind_eq_some_iff.mp H
   obtain ⟨⟨t788, t789⟩, A90, H⟩ := H
   replace H : (levylaw1_known.j0 k (t788 == 6 && (t789 == 1))) = some r := H
   have A9 := Aside0.mk A90
   clear A90
   have H' := Aside0.mk H
   clear H
   go_wp2_with (first | ((with_reducible refine gate_callee (f := 52) rfl ?_); refine goesL_ (some 4) rfl rfl Tryd.func52 (by kernel_rfl) rfl #[.int .i64 2] rfl agx ?_; (with_reducible refine (levylaw1_c.calls 2 t776 t777 _ A2.out).mono ?_); rintro e w10 ⟨rfl, hb⟩; refine ⟨_, rfl, ?_⟩; replace HB := Aside0.mk (below_step blx hb); (try clear hb); (try clear hb2); (try clear hk); (try clear hi)) | ((with_reducible refine gate_callee (f := 52) rfl ?_); refine goesL_ (some 5) rfl rfl Tryd.func52 (by kernel_rfl) rfl #[.int .i64 3] rfl agx ?_; (with_reducible refine (levylaw1_c.calls 3 t778 t779 _ A3.out).mono ?_); rintro e w11 ⟨rfl, hb⟩; refine ⟨_, rfl, ?_⟩; replace HB := Aside0.mk (below_step blx hb); (try clear hb); (try clear hb2); (try clear hk); (try clear hi)) | ((with_reducible refine gate_callee (f := 23) rfl ?_); refine goesL_ (some 6) rfl rfl Tryd.func23 (by kernel_rfl) rfl #[.agg #[.int .i64 t776, .int .i64 t777], .agg #[.int .i64 t778, .int .i64 t779]] rfl agx ?_; (with_reducible refine (money_Add.calls k t776 t777 t778 t779 t780 t781 _ A4.out (by first | exact HG0.out | exact Kd.C_below HG0.out blx)).mono ?_); rintro e w12 ⟨rfl, hb⟩; refine ⟨_, rfl, ?_⟩; replace HB := Aside0.mk (below_step blx hb); (try clear hb); (try clear hb2); (try clear hk); (try clear hi)) | ((with_reducible refine gate_callee (f := 52) rfl ?_); refine goesL_ (some 7) rfl rfl Tryd.func52 (by kernel_rfl) rfl #[.int .i64 5] rfl agx ?_; (with_reducible refine (levylaw1_c.calls 5 t782 t783 _ A5.out).mono ?_); rintro e w13 ⟨rfl, hb⟩; refine ⟨_, rfl, ?_⟩; replace HB := Aside0.mk (below_step blx hb); (try clear hb); (try clear hb2); (try clear hk); (try clear hi)) | (go_at_call 52; (with_reducible refine (levylaw1_c.calls 9999999999999 t784 t785 _ A7.out).mono ?_); rintro e w14 ⟨rfl, hb⟩; replace HB := Aside0.mk (below_step blx hb); (try clear hb); (try clear hb2); (try clear hk); (try clear hi)) | (go_at_call 52; (with_reducible refine (levylaw1_c.calls 1 t786 t787 _ A8.out).mono ?_); rintro e w15 ⟨rfl, hb⟩; replace HB := Aside0.mk (below_step blx hb); (try clear hb); (try clear hb2); (try clear hk); (try clear hi)) | (go_at_call 23; (with_reducible refine (money_Add.calls k t784 t785 t786 t787 t788 t789 _ A9.out (by first | exact HG0.out | exact Kd.C_below HG0.out blx)).mono ?_); rintro e w16 ⟨rfl, hb⟩; replace HB := Aside0.mk (below_step blx hb); (try clear hb); (try clear hb2); (try clear hk); (try clear hi)))
   go_meet
   case rel => exact ⟨_, ((t788 == 6 && (t789 == 1))), (by first | rfl | (simp; done) | (simp [*]; done)), H', ⟨by first | omega | exact Nat.le_refl _⟩, ⟨blx⟩⟩
  ·rw [if_neg c6] at H
   have c6b0 : (t780 == t782 && (t781 == t783)) = false := by simpa using c6
   (try (have c6b1 : decide (t780 = t782 && (t781 == t783)) = false := by simpa using c6))
   (try (have c6b2 : (t780 == t782 && (t781 == t783)) = false := by simpa using c6))
   (try (have c6b3 : ¬ (t780 = t782 && (t781 == t783)) := by simpa using c6))
   clear c6
   (first | rw [c6b0] | (simp only [i64_w, i32_w]; rw [c6b0]) | skip)
   have H' := Aside0.mk H
   clear H
   go_wp2_with (first | ((with_reducible refine gate_callee (f := 52) rfl ?_); refine goesL_ (some 4) rfl rfl Tryd.func52 (by kernel_rfl) rfl #[.int .i64 2] rfl agx ?_; (with_reducible refine (levylaw1_c.calls 2 t776 t777 _ A2.out).mono ?_); rintro e w17 ⟨rfl, hb⟩; refine ⟨_, rfl, ?_⟩; replace HB := Aside0.mk (below_step blx hb); (try clear hb); (try clear hb2); (try clear hk); (try clear hi)) | ((with_reducible refine gate_callee (f := 52) rfl ?_); refine goesL_ (some 5) rfl rfl Tryd.func52 (by kernel_rfl) rfl #[.int .i64 3] rfl agx ?_; (with_reducible refine (levylaw1_c.calls 3 t778 t779 _ A3.out).mono ?_); rintro e w18 ⟨rfl, hb⟩; refine ⟨_, rfl, ?_⟩; replace HB := Aside0.mk (below_step blx hb); (try clear hb); (try clear hb2); (try clear hk); (try clear hi)) | ((with_reducible refine gate_callee (f := 23) rfl ?_); refine goesL_ (some 6) rfl rfl Tryd.func23 (by kernel_rfl) rfl #[.agg #[.int .i64 t776, .int .i64 t777], .agg #[.int .i64 t778, .int .i64 t779]] rfl agx ?_; (with_reducible refine (money_Add.calls k t776 t777 t778 t779 t780 t781 _ A4.out (by first | exact HG0.out | exact Kd.C_below HG0.out blx)).mono ?_); rintro e w19 ⟨rfl, hb⟩; refine ⟨_, rfl, ?_⟩; replace HB := Aside0.mk (below_step blx hb); (try clear hb); (try clear hb2); (try clear hk); (try clear hi)) | ((with_reducible refine gate_callee (f := 52) rfl ?_); refine goesL_ (some 7) rfl rfl Tryd.func52 (by kernel_rfl) rfl #[.int .i64 5] rfl agx ?_; (with_reducible refine (levylaw1_c.calls 5 t782 t783 _ A5.out).mono ?_); rintro e w20 ⟨rfl, hb⟩; refine ⟨_, rfl, ?_⟩; replace HB := Aside0.mk (below_step blx hb); (try clear hb); (try clear hb2); (try clear hk); (try clear hi)))
   go_meet
   case rel => exact ⟨_, (false), (by first | rfl | (simp; done) | (simp [*]; done)), H', ⟨by first | omega | exact Nat.le_refl _⟩, ⟨blx⟩⟩
 case rest =>
  clear HC1
  try clear c2
  try clear p2
  try clear c5
  try clear c6
  try clear c6b0
  try clear c6b1
  try clear c6b2
  obtain ⟨kq, x1_0, rfl, HA, HJ0, HB⟩ := hcut
  cases kq with
  | zero => exact absurd HA.out (by simp [levylaw1_known.j0])
  | succ kj0 =>
   have H := HA.out
   clear HA
   simp only [levylaw1_known.j0] at H
   have HC21 := Aside0.mk H
   clear H
   go_upto_region 2 with (fail)
   go_cut [2] (fun v2 wc => ∃ (kq : Nat) (x2_20 : Bool), v2 = .bool x2_20 ∧ Aside0 (levylaw1_known.j1 kq x1_0 x2_20 = some r) ∧ Aside0 (kq ≤ kj0) ∧ Aside0 (Below w.heap.size w wc))
   case first =>
    have H := HC21.out
    clear HC21
    replace H := Option.bind_eq_some_iff.mp H
    obtain ⟨⟨t790, t791⟩, A220, H⟩ := H
    replace H : ((money_Scale.f kj0 t790 t791 1 10 5).bind fun bt792 => ((levylaw1_c.f 10).bind fun bt794 => (if (bt792.1 == bt794.1 && (bt792.2 == bt794.2)) = true then ((levylaw1_c.f (-105)).bind fun bt796 => ((money_Scale.f kj0 bt796.1 bt796.2 1 10 1).bind fun bt798 => ((levylaw1_c.f (-11)).bind fun bt800 => (if (bt798.1 == bt800.1 && (bt798.2 == bt800.2)) = true then ((levylaw1_c.f 1).bind fun bt802 => ((money_Split.f kj0 bt802.1 bt802.2 2 0 2).bind fun bt804 => (levylaw1_known.j1 kj0 x1_0 (bt804.1 == 6 && (bt804.2 == 2))))) else (levylaw1_known.j1 kj0 x1_0 false))))) else (levylaw1_known.j1 kj0 x1_0 false)))) = some r := H
    have A22 := Aside0.mk A220
    clear A220
    replace H := Option.bind_eq_some_iff.mp H
    obtain ⟨⟨t792, t793⟩, A230, H⟩ := H
    replace H : ((levylaw1_c.f 10).bind fun bt794 => (if (t792 == bt794.1 && (t793 == bt794.2)) = true then ((levylaw1_c.f (-105)).bind fun bt796 => ((money_Scale.f kj0 bt796.1 bt796.2 1 10 1).bind fun bt798 => ((levylaw1_c.f (-11)).bind fun bt800 => (if (bt798.1 == bt800.1 && (bt798.2 == bt800.2)) = true then ((levylaw1_c.f 1).bind fun bt802 => ((money_Split.f kj0 bt802.1 bt802.2 2 0 2).bind fun bt804 => (levylaw1_known.j1 kj0 x1_0 (bt804.1 == 6 && (bt804.2 == 2))))) else (levylaw1_known.j1 kj0 x1_0 false))))) else (levylaw1_known.j1 kj0 x1_0 false))) = some r := H
    have A23 := Aside0.mk A230
    clear A230
    replace H := Option.bind_eq_some_iff.mp H
    obtain ⟨⟨t794, t795⟩, A240, H⟩ := H
    replace H : (if (t792 == t794 && (t793 == t795)) = true then ((levylaw1_c.f (-105)).bind fun bt796 => ((money_Scale.f kj0 bt796.1 bt796.2 1 10 1).bind fun bt798 => ((levylaw1_c.f (-11)).bind fun bt800 => (if (bt798.1 == bt800.1 && (bt798.2 == bt800.2)) = true then ((levylaw1_c.f 1).bind fun bt802 => ((money_Split.f kj0 bt802.1 bt802.2 2 0 2).bind fun bt804 => (levylaw1_known.j1 kj0 x1_0 (bt804.1 == 6 && (bt804.2 == 2))))) else (levylaw1_known.j1 kj0 x1_0 false))))) else (levylaw1_known.j1 kj0 x1_0 false)) = some r := H
    have A24 := Aside0.mk A240
    clear A240
    by_cases c25 : (t792 == t794 && (t793 == t795)) = true
    ·rw [if_pos c25] at H
     have c25b0 : (t792 == t794 && (t793 == t795)) = true := c25
     (try (have c25b1 : decide (t792 = t794 && (t793 == t795)) = true := by simpa using c25))
     (try (have c25b2 : (t792 == t794 && (t793 == t795)) = true := by simpa using c25))
     clear c25
     (first | rw [c25b0] | (simp only [i64_w, i32_w]; rw [c25b0]) | skip)
     replace H := Option.bind_eq_some_iff.mp H
     obtain ⟨⟨t796, t797⟩, A260, H⟩ := H
     replace H : ((money_Scale.f kj0 t796 t797 1 10 1).bind fun bt798 => ((levylaw1_c.f (-11)).bind fun bt800 => (if (bt798.1 == bt800.1 && (bt798.2 == bt800.2)) = true then ((levylaw1_c.f 1).bind fun bt802 => ((money_Split.f kj0 bt802.1 bt802.2 2 0 2).bind fun bt804 => (levylaw1_known.j1 kj0 x1_0 (bt804.1 == 6 && (bt804.2 == 2))))) else (levylaw1_known.j1 kj0 x1_0 false)))) = some r := H
     have A26 := Aside0.mk A260
     clear A260
     replace H := Option.bind_eq_some_iff.mp H
     obtain ⟨⟨t798, t799⟩, A270, H⟩ := H
     replace H : ((levylaw1_c.f (-11)).bind fun bt800 => (if (t798 == bt800.1 && (t799 == bt800.2)) = true then ((levylaw1_c.f 1).bind fun bt802 => ((money_Split.f kj0 bt802.1 bt802.2 2 0 2).bind fun bt804 => (levylaw1_known.j1 kj0 x1_0 (bt804.1 == 6 && (bt804.2 == 2))))) else (levylaw1_known.j1 kj0 x1_0 false))) = some r := H
     have A27 := Aside0.mk A270
     clear A270
     replace H := Option.bind_eq_some_iff.mp H
     obtain ⟨⟨t800, t801⟩, A280, H⟩ := H
     replace H : (if (t798 == t800 && (t799 == t801)) = true then ((levylaw1_c.f 1).bind fun bt802 => ((money_Split.f kj0 bt802.1 bt802.2 2 0 2).bind fun bt804 => (levylaw1_known.j1 kj0 x1_0 (bt804.1 == 6 && (bt804.2 == 2))))) else (levylaw1_known.j1 kj0 x1_0 false)) = some r := H
     have A28 := Aside0.mk A280
     clear A280
     by_cases c29 : (t798 == t800 && (t799 == t801)) = true
     ·rw [if_pos c29] at H
      have c29b0 : (t798 == t800 && (t799 == t801)) = true := c29
      (try (have c29b1 : decide (t798 = t800 && (t799 == t801)) = true := by simpa using c29))
      (try (have c29b2 : (t798 == t800 && (t799 == t801)) = true := by simpa using c29))
      clear c29
      replace H := Option.bind_eq_some_iff.mp H
      obtain ⟨⟨t802, t803⟩, A300, H⟩ := H
      replace H : ((money_Split.f kj0 t802 t803 2 0 2).bind fun bt804 => (levylaw1_known.j1 kj0 x1_0 (bt804.1 == 6 && (bt804.2 == 2)))) = some r := H
      have A30 := Aside0.mk A300
      clear A300
      replace H := Option.bind_eq_some_iff.mp H
      obtain ⟨⟨t804, t805⟩, A310, H⟩ := H
      replace H : (levylaw1_known.j1 kj0 x1_0 (t804 == 6 && (t805 == 2))) = some r := H
      have A31 := Aside0.mk A310
      clear A310
      have H' := Aside0.mk H
      clear H
      go_wp2_with (first | ((with_reducible refine gate_callee (f := 52) rfl ?_); refine goesL_ (some 16) rfl rfl Tryd.func52 (by kernel_rfl) rfl #[.int .i64 105] rfl agx ?_; (with_reducible refine (levylaw1_c.calls 105 t790 t791 _ A22.out).mono ?_); rintro e w32 ⟨rfl, hb⟩; refine ⟨_, rfl, ?_⟩; replace HB := Aside0.mk (below_step blx hb); (try clear hb); (try clear hb2); (try clear hk); (try clear hi)) | ((with_reducible refine gate_callee (f := 49) rfl ?_); refine goesL_ (some 17) rfl rfl Tryd.func49 (by kernel_rfl) rfl #[.agg #[.int .i64 t790, .int .i64 t791], .int .i64 1, .int .i64 10, .int .i64 5] rfl agx ?_; (with_reducible refine (money_Scale.calls kj0 t790 t791 1 10 5 t792 t793 _ A23.out (by first | exact HG0.out | exact Kd.C_below HG0.out blx)).mono ?_); rintro e w33 ⟨rfl, hb⟩; refine ⟨_, rfl, ?_⟩; replace HB := Aside0.mk (below_step blx hb); (try clear hb); (try clear hb2); (try clear hk); (try clear hi)) | ((with_reducible refine gate_callee (f := 52) rfl ?_); refine goesL_ (some 18) rfl rfl Tryd.func52 (by kernel_rfl) rfl #[.int .i64 10] rfl agx ?_; (with_reducible refine (levylaw1_c.calls 10 t794 t795 _ A24.out).mono ?_); rintro e w34 ⟨rfl, hb⟩; refine ⟨_, rfl, ?_⟩; replace HB := Aside0.mk (below_step blx hb); (try clear hb); (try clear hb2); (try clear hk); (try clear hi)) | (go_at_call 52; (with_reducible refine (levylaw1_c.calls (-105) t796 t797 _ A26.out).mono ?_); rintro e w35 ⟨rfl, hb⟩; replace HB := Aside0.mk (below_step blx hb); (try clear hb); (try clear hb2); (try clear hk); (try clear hi)) | (go_at_call 49; (with_reducible refine (money_Scale.calls kj0 t796 t797 1 10 1 t798 t799 _ A27.out (by first | exact HG0.out | exact Kd.C_below HG0.out blx)).mono ?_); rintro e w36 ⟨rfl, hb⟩; replace HB := Aside0.mk (below_step blx hb); (try clear hb); (try clear hb2); (try clear hk); (try clear hi)) | (go_at_call 52; (with_reducible refine (levylaw1_c.calls (-11) t800 t801 _ A28.out).mono ?_); rintro e w37 ⟨rfl, hb⟩; replace HB := Aside0.mk (below_step blx hb); (try clear hb); (try clear hb2); (try clear hk); (try clear hi)) | (go_at_call 52; (with_reducible refine (levylaw1_c.calls 1 t802 t803 _ A30.out).mono ?_); rintro e w38 ⟨rfl, hb⟩; replace HB := Aside0.mk (below_step blx hb); (try clear hb); (try clear hb2); (try clear hk); (try clear hi)) | (go_at_call 47; (with_reducible refine (money_Split.calls kj0 t802 t803 2 0 2 t804 t805 _ A31.out (by first | exact HG0.out | exact Kd.C_below HG0.out blx)).mono ?_); rintro e w39 ⟨rfl, hb⟩; replace HB := Aside0.mk (below_step blx hb); (try clear hb); (try clear hb2); (try clear hk); (try clear hi)))
      go_meet
      case rel => exact ⟨_, ((t804 == 6 && (t805 == 2))), (by first | rfl | (simp; done) | (simp [*]; done)), H', ⟨by have := HJ0.out; first | omega | exact Nat.le_refl _⟩, ⟨blx⟩⟩
     ·rw [if_neg c29] at H
      have c29b0 : (t798 == t800 && (t799 == t801)) = false := by simpa using c29
      (try (have c29b1 : decide (t798 = t800 && (t799 == t801)) = false := by simpa using c29))
      (try (have c29b2 : (t798 == t800 && (t799 == t801)) = false := by simpa using c29))
      (try (have c29b3 : ¬ (t798 = t800 && (t799 == t801)) := by simpa using c29))
      clear c29
      have H' := Aside0.mk H
      clear H
      go_wp2_with (first | ((with_reducible refine gate_callee (f := 52) rfl ?_); refine goesL_ (some 16) rfl rfl Tryd.func52 (by kernel_rfl) rfl #[.int .i64 105] rfl agx ?_; (with_reducible refine (levylaw1_c.calls 105 t790 t791 _ A22.out).mono ?_); rintro e w40 ⟨rfl, hb⟩; refine ⟨_, rfl, ?_⟩; replace HB := Aside0.mk (below_step blx hb); (try clear hb); (try clear hb2); (try clear hk); (try clear hi)) | ((with_reducible refine gate_callee (f := 49) rfl ?_); refine goesL_ (some 17) rfl rfl Tryd.func49 (by kernel_rfl) rfl #[.agg #[.int .i64 t790, .int .i64 t791], .int .i64 1, .int .i64 10, .int .i64 5] rfl agx ?_; (with_reducible refine (money_Scale.calls kj0 t790 t791 1 10 5 t792 t793 _ A23.out (by first | exact HG0.out | exact Kd.C_below HG0.out blx)).mono ?_); rintro e w41 ⟨rfl, hb⟩; refine ⟨_, rfl, ?_⟩; replace HB := Aside0.mk (below_step blx hb); (try clear hb); (try clear hb2); (try clear hk); (try clear hi)) | ((with_reducible refine gate_callee (f := 52) rfl ?_); refine goesL_ (some 18) rfl rfl Tryd.func52 (by kernel_rfl) rfl #[.int .i64 10] rfl agx ?_; (with_reducible refine (levylaw1_c.calls 10 t794 t795 _ A24.out).mono ?_); rintro e w42 ⟨rfl, hb⟩; refine ⟨_, rfl, ?_⟩; replace HB := Aside0.mk (below_step blx hb); (try clear hb); (try clear hb2); (try clear hk); (try clear hi)) | (go_at_call 52; (with_reducible refine (levylaw1_c.calls (-105) t796 t797 _ A26.out).mono ?_); rintro e w43 ⟨rfl, hb⟩; replace HB := Aside0.mk (below_step blx hb); (try clear hb); (try clear hb2); (try clear hk); (try clear hi)) | (go_at_call 49; (with_reducible refine (money_Scale.calls kj0 t796 t797 1 10 1 t798 t799 _ A27.out (by first | exact HG0.out | exact Kd.C_below HG0.out blx)).mono ?_); rintro e w44 ⟨rfl, hb⟩; replace HB := Aside0.mk (below_step blx hb); (try clear hb); (try clear hb2); (try clear hk); (try clear hi)) | (go_at_call 52; (with_reducible refine (levylaw1_c.calls (-11) t800 t801 _ A28.out).mono ?_); rintro e w45 ⟨rfl, hb⟩; replace HB := Aside0.mk (below_step blx hb); (try clear hb); (try clear hb2); (try clear hk); (try clear hi)))
      go_meet
      case rel => exact ⟨_, (false), (by first | rfl | (simp; done) | (simp [*]; done)), H', ⟨by have := HJ0.out; first | omega | exact Nat.le_refl _⟩, ⟨blx⟩⟩
    ·rw [if_neg c25] at H
     have c25b0 : (t792 == t794 && (t793 == t795)) = false := by simpa using c25
     (try (have c25b1 : decide (t792 = t794 && (t793 == t795)) = false := by simpa using c25))
     (try (have c25b2 : (t792 == t794 && (t793 == t795)) = false := by simpa using c25))
     (try (have c25b3 : ¬ (t792 = t794 && (t793 == t795)) := by simpa using c25))
     clear c25
     (first | rw [c25b0] | (simp only [i64_w, i32_w]; rw [c25b0]) | skip)
     have H' := Aside0.mk H
     clear H
     go_wp2_with (first | ((with_reducible refine gate_callee (f := 52) rfl ?_); refine goesL_ (some 16) rfl rfl Tryd.func52 (by kernel_rfl) rfl #[.int .i64 105] rfl agx ?_; (with_reducible refine (levylaw1_c.calls 105 t790 t791 _ A22.out).mono ?_); rintro e w46 ⟨rfl, hb⟩; refine ⟨_, rfl, ?_⟩; replace HB := Aside0.mk (below_step blx hb); (try clear hb); (try clear hb2); (try clear hk); (try clear hi)) | ((with_reducible refine gate_callee (f := 49) rfl ?_); refine goesL_ (some 17) rfl rfl Tryd.func49 (by kernel_rfl) rfl #[.agg #[.int .i64 t790, .int .i64 t791], .int .i64 1, .int .i64 10, .int .i64 5] rfl agx ?_; (with_reducible refine (money_Scale.calls kj0 t790 t791 1 10 5 t792 t793 _ A23.out (by first | exact HG0.out | exact Kd.C_below HG0.out blx)).mono ?_); rintro e w47 ⟨rfl, hb⟩; refine ⟨_, rfl, ?_⟩; replace HB := Aside0.mk (below_step blx hb); (try clear hb); (try clear hb2); (try clear hk); (try clear hi)) | ((with_reducible refine gate_callee (f := 52) rfl ?_); refine goesL_ (some 18) rfl rfl Tryd.func52 (by kernel_rfl) rfl #[.int .i64 10] rfl agx ?_; (with_reducible refine (levylaw1_c.calls 10 t794 t795 _ A24.out).mono ?_); rintro e w48 ⟨rfl, hb⟩; refine ⟨_, rfl, ?_⟩; replace HB := Aside0.mk (below_step blx hb); (try clear hb); (try clear hb2); (try clear hk); (try clear hi)))
     go_meet
     case rel => exact ⟨_, (false), (by first | rfl | (simp; done) | (simp [*]; done)), H', ⟨by have := HJ0.out; first | omega | exact Nat.le_refl _⟩, ⟨blx⟩⟩
   case rest =>
    clear HC21
    try clear c2
    try clear p2
    try clear c4
    try clear c5
    try clear c6
    try clear c6b0
    try clear c6b1
    try clear c6b2
    try clear c23
    try clear c25
    try clear c25b0
    try clear c25b1
    try clear c25b2
    try clear c29
    try clear c29b0
    try clear c29b1
    try clear c29b2
    try clear p2
    obtain ⟨kq, x2_20, rfl, HA, HJ20, HB⟩ := hcut
    cases kq with
    | zero => exact absurd HA.out (by simp [levylaw1_known.j1])
    | succ kj20 =>
     have H := HA.out
     clear HA
     simp only [levylaw1_known.j1] at H
     obtain ⟨y806, hy806⟩ : ∃ y_ : List (S72), y_ = (([(⟨0, 100000⟩ : S72), (⟨1000000, 250000⟩ : S72)] : List (S72))) := ⟨_, rfl⟩
     replace H : (if x1_0 = true then (if x2_20 = true then ((levylaw1_c.f 1000002).bind fun bt809 => ((money_Bracket.f kj20 y806 bt809.1 bt809.2).bind fun bt811 => ((levylaw1_c.f 100001).bind fun bt813 => (if (bt811.1 == bt813.1 && (bt811.2 == bt813.2)) = true then ((levylaw1_c.f 5).bind fun bt815 => ((money_Valid.f bt815.1 bt815.2).bind fun t817 => (if t817 = true then ((money_Valid.f 7 0).bind fun t818 => (some (!t818))) else (some false)))) else (some false))))) else (some false)) else (some false)) = some r := by first | (rw [hy806]; with_reducible exact H) | (have H2_ := (Option.bind_some _ _).symm.trans H; rw [hy806]; with_reducible exact H2_) | (have H2_ := (Option.bind_some _ _).symm.trans H; with_reducible exact H2_) | with_reducible exact H | (rw [hy806]; exact H) | exact H
     have Ny806 := Aside0.mk hy806
     clear hy806
     by_cases c49 : x1_0 = true
     ·subst c49
      have H1 : (if x2_20 = true then ((levylaw1_c.f 1000002).bind fun bt809 => ((money_Bracket.f kj20 y806 bt809.1 bt809.2).bind fun bt811 => ((levylaw1_c.f 100001).bind fun bt813 => (if (bt811.1 == bt813.1 && (bt811.2 == bt813.2)) = true then ((levylaw1_c.f 5).bind fun bt815 => ((money_Valid.f bt815.1 bt815.2).bind fun t817 => (if t817 = true then ((money_Valid.f 7 0).bind fun t818 => (some (!t818))) else (some false)))) else (some false))))) else (some false)) = some r := by rw [if_pos rfl] at H; exact H
      clear H
      have H := H1
      clear H1
      by_cases c50 : x2_20 = true
      ·subst c50
       have H1 : ((levylaw1_c.f 1000002).bind fun bt809 => ((money_Bracket.f kj20 y806 bt809.1 bt809.2).bind fun bt811 => ((levylaw1_c.f 100001).bind fun bt813 => (if (bt811.1 == bt813.1 && (bt811.2 == bt813.2)) = true then ((levylaw1_c.f 5).bind fun bt815 => ((money_Valid.f bt815.1 bt815.2).bind fun t817 => (if t817 = true then ((money_Valid.f 7 0).bind fun t818 => (some (!t818))) else (some false)))) else (some false))))) = some r := by rw [if_pos rfl] at H; exact H
       clear H
       have H := H1
       clear H1
       replace H := Option.bind_eq_some_iff.mp H
       obtain ⟨⟨t809, t810⟩, A510, H⟩ := H
       replace H : ((money_Bracket.f kj20 y806 t809 t810).bind fun bt811 => ((levylaw1_c.f 100001).bind fun bt813 => (if (bt811.1 == bt813.1 && (bt811.2 == bt813.2)) = true then ((levylaw1_c.f 5).bind fun bt815 => ((money_Valid.f bt815.1 bt815.2).bind fun t817 => (if t817 = true then ((money_Valid.f 7 0).bind fun t818 => (some (!t818))) else (some false)))) else (some false)))) = some r := H
       have A51 := Aside0.mk A510
       clear A510
       replace H := Option.bind_eq_some_iff.mp H
       obtain ⟨⟨t811, t812⟩, A520, H⟩ := H
       replace H : ((levylaw1_c.f 100001).bind fun bt813 => (if (t811 == bt813.1 && (t812 == bt813.2)) = true then ((levylaw1_c.f 5).bind fun bt815 => ((money_Valid.f bt815.1 bt815.2).bind fun t817 => (if t817 = true then ((money_Valid.f 7 0).bind fun t818 => (some (!t818))) else (some false)))) else (some false))) = some r := H
       have A52 := Aside0.mk A520
       clear A520
       replace H := Option.bind_eq_some_iff.mp H
       obtain ⟨⟨t813, t814⟩, A530, H⟩ := H
       replace H : (if (t811 == t813 && (t812 == t814)) = true then ((levylaw1_c.f 5).bind fun bt815 => ((money_Valid.f bt815.1 bt815.2).bind fun t817 => (if t817 = true then ((money_Valid.f 7 0).bind fun t818 => (some (!t818))) else (some false)))) else (some false)) = some r := H
       have A53 := Aside0.mk A530
       clear A530
       by_cases c54 : (t811 == t813 && (t812 == t814)) = true
       ·rw [if_pos c54] at H
        have c54b0 : (t811 == t813 && (t812 == t814)) = true := c54
        (try (have c54b1 : decide (t811 = t813 && (t812 == t814)) = true := by simpa using c54))
        (try (have c54b2 : (t811 == t813 && (t812 == t814)) = true := by simpa using c54))
        clear c54
        replace H := Option.bind_eq_some_iff.mp H
        obtain ⟨⟨t815, t816⟩, A550, H⟩ := H
        replace H : ((money_Valid.f t815 t816).bind fun t817 => (if t817 = true then ((money_Valid.f 7 0).bind fun t818 => (some (!t818))) else (some false))) = some r := H
        have A55 := Aside0.mk A550
        clear A550
        replace H := Option.bind_eq_some_iff.mp H
        obtain ⟨t817, A560, H⟩ := H
        replace H : (if t817 = true then ((money_Valid.f 7 0).bind fun t818 => (some (!t818))) else (some false)) = some r := H
        have A56 := Aside0.mk A560
        clear A560
        by_cases c57 : t817 = true
        ·subst c57
         have H1 : ((money_Valid.f 7 0).bind fun t818 => (some (!t818))) = some r := by rw [if_pos rfl] at H; exact H
         clear H
         have H := H1
         clear H1
         replace H := Option.bind_eq_some_iff.mp H
         obtain ⟨t818, A580, H⟩ := H
         replace H : (some (!t818)) = some r := H
         have A58 := Aside0.mk A580
         clear A580
         obtain rfl := Option.some.inj H
         go_wp2_with (first | ((with_reducible refine gate_dst (N := 35) rfl ?_); refine Kd.R_lit k72 _ 72 ?hg (N := 35) ?hd (xs := ([(⟨0, 100000⟩ : S72), (⟨1000000, 250000⟩ : S72)] : List (S72))) (inner := [.int .i64 0, .int .i64 100000, .int .i64 1000000, .int .i64 250000]) (ok := fun _ => True) (okp := fun _ => True) ?hr ?hp (fun _ hk => hk) trivial (Below.refl _ _) (Nat.le_refl _) (by simp) ?_; (case hd => rfl); (case hg => rfl); (case hr => first | (go_simp; done) | (go_simp; rfl)); (case hp => exact (Reps.c2 (show Kd.M k72 _ _ _ (⟨0, 100000⟩ : S72) [.int .i64 0, .int .i64 100000] from (k72_mkM _ _ _ (⟨0, 100000⟩ : S72) )) (Reps.c2 (show Kd.M k72 _ _ _ (⟨1000000, 250000⟩ : S72) [.int .i64 1000000, .int .i64 250000] from (k72_mkM _ _ _ (⟨1000000, 250000⟩ : S72) )) (Reps.none _ _)))); intro v807 w59 ho60 hb hg_ hnew_; clear hg_ hnew_; (first | rw [← Ny806.out] at ho60 | (simp only [Int.reduceToNat] at ho60; rw [← Ny806.out] at ho60)); have HO808 := Aside0.mk (Kd.R_lower ho60 (below_size blx)); replace HB := Aside0.mk (below_step blx hb); clear hb ho60) | (go_at_call 52; (with_reducible refine (levylaw1_c.calls 1000002 t809 t810 _ A51.out).mono ?_); rintro e w61 ⟨rfl, hb⟩; replace HO808 := hoq HO808 hb; replace HB := Aside0.mk (below_step blx hb); (try clear hb); (try clear hb2); (try clear hk); (try clear hi); obtain ⟨Ao62, co62, eo62⟩ := Kd.R_slice HO808.out; subst eo62) | (go_at_call 45; (with_reducible refine (money_Bracket.calls kj20 _ _ y806 t809 t810 t811 t812 _ ?side1 ?side2 A52.out (by first | exact HG0.out | exact Kd.C_below HG0.out blx)).mono ?_); (case side1 => exact crx HO808); (case side2 => exact (Kd.R_reads' HO808.out).2.1); rintro e w63 ⟨rfl, hb⟩; replace HO808 := hoq HO808 hb; replace HB := Aside0.mk (below_step blx hb); (try clear hb); (try clear hb2); (try clear hk); (try clear hi)) | (go_at_call 52; (with_reducible refine (levylaw1_c.calls 100001 t813 t814 _ A53.out).mono ?_); rintro e w64 ⟨rfl, hb⟩; replace HO808 := hoq HO808 hb; replace HB := Aside0.mk (below_step blx hb); (try clear hb); (try clear hb2); (try clear hk); (try clear hi)) | (go_at_call 52; (with_reducible refine (levylaw1_c.calls 5 t815 t816 _ A55.out).mono ?_); rintro e w65 ⟨rfl, hb⟩; replace HO808 := hoq HO808 hb; replace HB := Aside0.mk (below_step blx hb); (try clear hb); (try clear hb2); (try clear hk); (try clear hi)) | (go_at_call 18; (with_reducible refine (money_Valid.calls t815 t816 true _ A56.out (by first | exact HG0.out | exact Kd.C_below HG0.out blx)).mono ?_); rintro e w66 ⟨rfl, hb⟩; replace HO808 := hoq HO808 hb; replace HB := Aside0.mk (below_step blx hb); (try clear hb); (try clear hb2); (try clear hk); (try clear hi)) | (go_at_call 18; (with_reducible refine (money_Valid.calls 7 0 t818 _ A58.out (by first | exact HG0.out | exact Kd.C_below HG0.out blx)).mono ?_); rintro e w67 ⟨rfl, hb⟩; replace HO808 := hoq HO808 hb; replace HB := Aside0.mk (below_step blx hb); (try clear hb); (try clear hb2); (try clear hk); (try clear hi)))
         go_ret
         exact ⟨by first | rfl | (simp [errW_none, errW_some] <;> rfl) | (simp [*, errW_none, errW_some] <;> rfl), blx⟩
        ·replace c57 := Bool.eq_false_iff.mpr c57
         subst c57
         have H1 : (some false) = some r := by rw [if_neg (show ¬ (false = true) by decide)] at H; exact H
         clear H
         have H := H1
         clear H1
         obtain rfl := Option.some.inj H
         go_wp2_with (first | ((with_reducible refine gate_dst (N := 35) rfl ?_); refine Kd.R_lit k72 _ 72 ?hg (N := 35) ?hd (xs := ([(⟨0, 100000⟩ : S72), (⟨1000000, 250000⟩ : S72)] : List (S72))) (inner := [.int .i64 0, .int .i64 100000, .int .i64 1000000, .int .i64 250000]) (ok := fun _ => True) (okp := fun _ => True) ?hr ?hp (fun _ hk => hk) trivial (Below.refl _ _) (Nat.le_refl _) (by simp) ?_; (case hd => rfl); (case hg => rfl); (case hr => first | (go_simp; done) | (go_simp; rfl)); (case hp => exact (Reps.c2 (show Kd.M k72 _ _ _ (⟨0, 100000⟩ : S72) [.int .i64 0, .int .i64 100000] from (k72_mkM _ _ _ (⟨0, 100000⟩ : S72) )) (Reps.c2 (show Kd.M k72 _ _ _ (⟨1000000, 250000⟩ : S72) [.int .i64 1000000, .int .i64 250000] from (k72_mkM _ _ _ (⟨1000000, 250000⟩ : S72) )) (Reps.none _ _)))); intro v807 w68 ho69 hb hg_ hnew_; clear hg_ hnew_; (first | rw [← Ny806.out] at ho69 | (simp only [Int.reduceToNat] at ho69; rw [← Ny806.out] at ho69)); have HO808 := Aside0.mk (Kd.R_lower ho69 (below_size blx)); replace HB := Aside0.mk (below_step blx hb); clear hb ho69) | (go_at_call 52; (with_reducible refine (levylaw1_c.calls 1000002 t809 t810 _ A51.out).mono ?_); rintro e w70 ⟨rfl, hb⟩; replace HO808 := hoq HO808 hb; replace HB := Aside0.mk (below_step blx hb); (try clear hb); (try clear hb2); (try clear hk); (try clear hi); obtain ⟨Ao71, co71, eo71⟩ := Kd.R_slice HO808.out; subst eo71) | (go_at_call 45; (with_reducible refine (money_Bracket.calls kj20 _ _ y806 t809 t810 t811 t812 _ ?side1 ?side2 A52.out (by first | exact HG0.out | exact Kd.C_below HG0.out blx)).mono ?_); (case side1 => exact crx HO808); (case side2 => exact (Kd.R_reads' HO808.out).2.1); rintro e w72 ⟨rfl, hb⟩; replace HO808 := hoq HO808 hb; replace HB := Aside0.mk (below_step blx hb); (try clear hb); (try clear hb2); (try clear hk); (try clear hi)) | (go_at_call 52; (with_reducible refine (levylaw1_c.calls 100001 t813 t814 _ A53.out).mono ?_); rintro e w73 ⟨rfl, hb⟩; replace HO808 := hoq HO808 hb; replace HB := Aside0.mk (below_step blx hb); (try clear hb); (try clear hb2); (try clear hk); (try clear hi)) | (go_at_call 52; (with_reducible refine (levylaw1_c.calls 5 t815 t816 _ A55.out).mono ?_); rintro e w74 ⟨rfl, hb⟩; replace HO808 := hoq HO808 hb; replace HB := Aside0.mk (below_step blx hb); (try clear hb); (try clear hb2); (try clear hk); (try clear hi)) | (go_at_call 18; (with_reducible refine (money_Valid.calls t815 t816 false _ A56.out (by first | exact HG0.out | exact Kd.C_below HG0.out blx)).mono ?_); rintro e w75 ⟨rfl, hb⟩; replace HO808 := hoq HO808 hb; replace HB := Aside0.mk (below_step blx hb); (try clear hb); (try clear hb2); (try clear hk); (try clear hi)))
         go_ret
         exact ⟨by first | rfl | (simp [errW_none, errW_some] <;> rfl) | (simp [*, errW_none, errW_some] <;> rfl), blx⟩
       ·rw [if_neg c54] at H
        have c54b0 : (t811 == t813 && (t812 == t814)) = false := by simpa using c54
        (try (have c54b1 : decide (t811 = t813 && (t812 == t814)) = false := by simpa using c54))
        (try (have c54b2 : (t811 == t813 && (t812 == t814)) = false := by simpa using c54))
        (try (have c54b3 : ¬ (t811 = t813 && (t812 == t814)) := by simpa using c54))
        clear c54
        obtain rfl := Option.some.inj H
        go_wp2_with (first | ((with_reducible refine gate_dst (N := 35) rfl ?_); refine Kd.R_lit k72 _ 72 ?hg (N := 35) ?hd (xs := ([(⟨0, 100000⟩ : S72), (⟨1000000, 250000⟩ : S72)] : List (S72))) (inner := [.int .i64 0, .int .i64 100000, .int .i64 1000000, .int .i64 250000]) (ok := fun _ => True) (okp := fun _ => True) ?hr ?hp (fun _ hk => hk) trivial (Below.refl _ _) (Nat.le_refl _) (by simp) ?_; (case hd => rfl); (case hg => rfl); (case hr => first | (go_simp; done) | (go_simp; rfl)); (case hp => exact (Reps.c2 (show Kd.M k72 _ _ _ (⟨0, 100000⟩ : S72) [.int .i64 0, .int .i64 100000] from (k72_mkM _ _ _ (⟨0, 100000⟩ : S72) )) (Reps.c2 (show Kd.M k72 _ _ _ (⟨1000000, 250000⟩ : S72) [.int .i64 1000000, .int .i64 250000] from (k72_mkM _ _ _ (⟨1000000, 250000⟩ : S72) )) (Reps.none _ _)))); intro v807 w76 ho77 hb hg_ hnew_; clear hg_ hnew_; (first | rw [← Ny806.out] at ho77 | (simp only [Int.reduceToNat] at ho77; rw [← Ny806.out] at ho77)); have HO808 := Aside0.mk (Kd.R_lower ho77 (below_size blx)); replace HB := Aside0.mk (below_step blx hb); clear hb ho77) | (go_at_call 52; (with_reducible refine (levylaw1_c.calls 1000002 t809 t810 _ A51.out).mono ?_); rintro e w78 ⟨rfl, hb⟩; replace HO808 := hoq HO808 hb; replace HB := Aside0.mk (below_step blx hb); (try clear hb); (try clear hb2); (try clear hk); (try clear hi); obtain ⟨Ao79, co79, eo79⟩ := Kd.R_slice HO808.out; subst eo79) | (go_at_call 45; (with_reducible refine (money_Bracket.calls kj20 _ _ y806 t809 t810 t811 t812 _ ?side1 ?side2 A52.out (by first | exact HG0.out | exact Kd.C_below HG0.out blx)).mono ?_); (case side1 => exact crx HO808); (case side2 => exact (Kd.R_reads' HO808.out).2.1); rintro e w80 ⟨rfl, hb⟩; replace HO808 := hoq HO808 hb; replace HB := Aside0.mk (below_step blx hb); (try clear hb); (try clear hb2); (try clear hk); (try clear hi)) | (go_at_call 52; (with_reducible refine (levylaw1_c.calls 100001 t813 t814 _ A53.out).mono ?_); rintro e w81 ⟨rfl, hb⟩; replace HO808 := hoq HO808 hb; replace HB := Aside0.mk (below_step blx hb); (try clear hb); (try clear hb2); (try clear hk); (try clear hi)))
        go_ret
        exact ⟨by first | rfl | (simp [errW_none, errW_some] <;> rfl) | (simp [*, errW_none, errW_some] <;> rfl), blx⟩
      ·replace c50 := Bool.eq_false_iff.mpr c50
       subst c50
       have H1 : (some false) = some r := by rw [if_neg (show ¬ (false = true) by decide)] at H; exact H
       clear H
       have H := H1
       clear H1
       obtain rfl := Option.some.inj H
       go_wp2_with (first | ((with_reducible refine gate_dst (N := 35) rfl ?_); refine Kd.R_lit k72 _ 72 ?hg (N := 35) ?hd (xs := ([(⟨0, 100000⟩ : S72), (⟨1000000, 250000⟩ : S72)] : List (S72))) (inner := [.int .i64 0, .int .i64 100000, .int .i64 1000000, .int .i64 250000]) (ok := fun _ => True) (okp := fun _ => True) ?hr ?hp (fun _ hk => hk) trivial (Below.refl _ _) (Nat.le_refl _) (by simp) ?_; (case hd => rfl); (case hg => rfl); (case hr => first | (go_simp; done) | (go_simp; rfl)); (case hp => exact (Reps.c2 (show Kd.M k72 _ _ _ (⟨0, 100000⟩ : S72) [.int .i64 0, .int .i64 100000] from (k72_mkM _ _ _ (⟨0, 100000⟩ : S72) )) (Reps.c2 (show Kd.M k72 _ _ _ (⟨1000000, 250000⟩ : S72) [.int .i64 1000000, .int .i64 250000] from (k72_mkM _ _ _ (⟨1000000, 250000⟩ : S72) )) (Reps.none _ _)))); intro v807 w82 ho83 hb hg_ hnew_; clear hg_ hnew_; (first | rw [← Ny806.out] at ho83 | (simp only [Int.reduceToNat] at ho83; rw [← Ny806.out] at ho83)); have HO808 := Aside0.mk (Kd.R_lower ho83 (below_size blx)); replace HB := Aside0.mk (below_step blx hb); clear hb ho83))
       go_ret
       exact ⟨by first | rfl | (simp [errW_none, errW_some] <;> rfl) | (simp [*, errW_none, errW_some] <;> rfl), blx⟩
     ·replace c49 := Bool.eq_false_iff.mpr c49
      subst c49
      have H1 : (some false) = some r := by rw [if_neg (show ¬ (false = true) by decide)] at H; exact H
      clear H
      have H := H1
      clear H1
      obtain rfl := Option.some.inj H
      go_wp2_with (first | ((with_reducible refine gate_dst (N := 35) rfl ?_); refine Kd.R_lit k72 _ 72 ?hg (N := 35) ?hd (xs := ([(⟨0, 100000⟩ : S72), (⟨1000000, 250000⟩ : S72)] : List (S72))) (inner := [.int .i64 0, .int .i64 100000, .int .i64 1000000, .int .i64 250000]) (ok := fun _ => True) (okp := fun _ => True) ?hr ?hp (fun _ hk => hk) trivial (Below.refl _ _) (Nat.le_refl _) (by simp) ?_; (case hd => rfl); (case hg => rfl); (case hr => first | (go_simp; done) | (go_simp; rfl)); (case hp => exact (Reps.c2 (show Kd.M k72 _ _ _ (⟨0, 100000⟩ : S72) [.int .i64 0, .int .i64 100000] from (k72_mkM _ _ _ (⟨0, 100000⟩ : S72) )) (Reps.c2 (show Kd.M k72 _ _ _ (⟨1000000, 250000⟩ : S72) [.int .i64 1000000, .int .i64 250000] from (k72_mkM _ _ _ (⟨1000000, 250000⟩ : S72) )) (Reps.none _ _)))); intro v807 w84 ho85 hb hg_ hnew_; clear hg_ hnew_; (first | rw [← Ny806.out] at ho85 | (simp only [Int.reduceToNat] at ho85; rw [← Ny806.out] at ho85)); have HO808 := Aside0.mk (Kd.R_lower ho85 (below_size blx)); replace HB := Aside0.mk (below_step blx hb); clear hb ho85))
      go_ret
      exact ⟨by first | rfl | (simp [errW_none, errW_some] <;> rfl) | (simp [*, errW_none, errW_some] <;> rfl), blx⟩
end Go.Proofs.YtnjhjaifmgjljaaDoor.PM
end

section
namespace Go.Proofs.YtnjhjaifmgjljaaDoor.Pure
open Go.RowKit Go.Proofs.YtnjhjaifmgjljaaDoor.PM Go.Proofs.YtnjhjaifmgjljaaDoor.Q Go.Proofs.YtnjhjaifmgjljaaDoorW.PrintWords Go.Proofs.YtnjhjaifmgjljaaDoorW.PrintLast Go.Proofs.YtnjhjaifmgjljaaDoorW.PrintMore
theorem sides (call : Int) (hc : call = 1 ∨ call = 2 ∨ call = 4) (v : S23) (l : List S23) (hl : (v :: l).length ≤ 6) (n : Int) (k : Nat) (hk : 12 < k) :
    ((money_alike.f k call (v :: l)).bind fun b => (if b.2.2 = true then ((money_checked.f v.f0 n).bind fun c => (some (c.1, c.2))) else (some (b.1, b.2.1)))) = some (chosenS call (v :: l) n) := by
  rw [alike_is call hc (v :: l) (by omega) k (by omega)]
  simp only [Option.bind_some, alikeS, chosenS]
  cases hf : flt (v :: l) with
  | some v => simp
  | none =>
    have hm := flt_none hf v (by simp)
    have e : (rd_T23 (v :: l) 0).f0 = v.f0 := rfl
    simp only [e]
    split
    · rw [if_pos rfl, checked_is v.f0 _ (by omega) (by omega)]; rfl
    · simp
end Go.Proofs.YtnjhjaifmgjljaaDoor.Pure
end

section
namespace Go.Proofs.YtnjhjaifmgjljaaDoor.Pure
open Go.RowKit Go.Proofs.YtnjhjaifmgjljaaDoor.PM Go.Proofs.YtnjhjaifmgjljaaDoor.Q Go.Proofs.YtnjhjaifmgjljaaDoorW.PrintWords Go.Proofs.YtnjhjaifmgjljaaDoorW.PrintLast Go.Proofs.YtnjhjaifmgjljaaDoorW.PrintMore
def clampN (b d f : Int) : Int := if b < d then d else if b > f then f else b
theorem clamp_is (k : Nat) (hk : 12 < k) (a b c d e f : Int) : money_Clamp.f k a b c d e f = some (chosenS 2 [⟨a, b⟩, ⟨c, d⟩, ⟨e, f⟩] (clampN b d f)) := by
  unfold money_Clamp.f
  rw [alike_is 2 (by simp) _ (by simp) k (by simp; omega)]
  simp only [Option.bind_some, alikeS, chosenS]
  cases hf : flt [⟨a, b⟩, ⟨c, d⟩, ⟨e, f⟩] with
  | some v => simp
  | none =>
    have hm := flt_none hf
    have m0 := (hm ⟨a, b⟩ (by simp)).2.2
    have m1 := (hm ⟨c, d⟩ (by simp)).2.2
    have m2 := (hm ⟨e, f⟩ (by simp)).2.2
    have e0 : (rd_T23 [(⟨a, b⟩ : S23), ⟨c, d⟩, ⟨e, f⟩] 0).f0 = a := rfl
    simp only [e0]
    by_cases hs : same 2 a [⟨a, b⟩, ⟨c, d⟩, ⟨e, f⟩] = true
    · have hs' := hs
      simp only [same, List.all_cons, List.all_nil, Bool.and_true, Bool.and_eq_true, beq_iff_eq] at hs'
      obtain ⟨_, ⟨rfl, _⟩, rfl, _⟩ := hs'
      rw [if_pos hs, if_pos rfl, if_pos hs]
      unfold clampN boundS
      simp only at m0 m1 m2
      split
      · first | rfl | rw [if_pos m1]
      · split
        · first | rfl | rw [if_pos m2]
        · first | rfl | rw [if_pos m0]
    · rw [if_neg hs, if_neg (by simp), if_neg hs]
end Go.Proofs.YtnjhjaifmgjljaaDoor.Pure
end

section
namespace Go.Proofs.YtnjhjaifmgjljaaDoor.Pure
open Go.RowKit Go.Proofs.YtnjhjaifmgjljaaDoor.PM Go.Proofs.YtnjhjaifmgjljaaDoor.Q Go.Proofs.YtnjhjaifmgjljaaDoorW.PrintWords Go.Proofs.YtnjhjaifmgjljaaDoorW.PrintLast Go.Proofs.YtnjhjaifmgjljaaDoorW.PrintMore
def flag (op b d : Int) : Int × Int :=
  if op = 25 then (if b = d then (3, 1) else (3, 0)) else if op = 26 then (if b = d then (3, 0) else (3, 1)) else if op = 27 then (if b < d then (3, 1) else (3, 0))
  else if op = 28 then (if b ≤ d then (3, 1) else (3, 0)) else if op = 29 then (if b > d then (3, 1) else (3, 0)) else if op = 30 then (if b ≥ d then (3, 1) else (3, 0)) else (6, 5)
def compareS (op : Int) (l : List S23) (b d : Int) : Int × Int :=
  match flt l with | some v => v | none => if same (if op = 25 ∨ op = 26 then 4 else 2) (rd_T23 l 0).f0 l then flag op b d else (6, 5)
theorem money_j1 (k : Nat) (hk : 12 < k) (op call : Int) (hc : call = 1 ∨ call = 2 ∨ call = 4) (hcall : call = if op = 25 ∨ op = 26 then 4 else 2) (a b c d : Int) :
    money_Compare.j1 (k + 1) op call a b c d = some (compareS op [⟨a, b⟩, ⟨c, d⟩] b d) := by
  simp only [money_Compare.j1]
  rw [alike_is call hc _ (by simp) k (by simp; omega)]
  simp only [Option.bind_some, alikeS, compareS, ← hcall]
  cases hf : flt [⟨a, b⟩, ⟨c, d⟩] with
  | some v => simp
  | none =>
    by_cases hs : same call (rd_T23 [(⟨a, b⟩ : S23), ⟨c, d⟩] 0).f0 [⟨a, b⟩, ⟨c, d⟩] = true
    · rw [if_pos hs, if_pos rfl, if_pos hs]
      simp only [money_fault.f, Option.bind_some, flag]
      repeat' split
      all_goals rfl
    · rw [if_neg hs, if_neg (by simp), if_neg hs]
theorem compare_is (k : Nat) (hk : 14 < k) (op a b c d : Int) : money_Compare.f k op a b c d = some (compareS op [⟨a, b⟩, ⟨c, d⟩] b d) := by
  obtain ⟨m, rfl⟩ : ∃ m, k = m + 1 + 1 := ⟨k - 2, by omega⟩
  unfold money_Compare.f
  by_cases h5 : op = 25
  · rw [if_pos h5]
    simp only [money_Compare.j0, if_true]
    exact money_j1 m (by omega) op 4 (by simp) (by simp [h5]) a b c d
  · rw [if_neg h5]
    simp only [money_Compare.j0]
    by_cases h6 : op = 26
    · rw [if_pos (by simp [h6])]
      exact money_j1 m (by omega) op 4 (by simp) (by simp [h6]) a b c d
    · rw [if_neg (by simp [h6])]
      exact money_j1 m (by omega) op 2 (by simp) (by simp [h5, h6]) a b c d
end Go.Proofs.YtnjhjaifmgjljaaDoor.Pure
end

section
namespace Go.Proofs.YtnjhjaifmgjljaaDoor.Q
open Go.RowKit Go.Proofs.YtnjhjaifmgjljaaDoor.PM Go.Proofs.YtnjhjaifmgjljaaDoorW.PrintWords Go.Proofs.YtnjhjaifmgjljaaDoorW.PrintLast Go.Proofs.YtnjhjaifmgjljaaDoorW.PrintMore
theorem w64 {x : Int} (h0 : -9223372036854775808 ≤ x) (h1 : x ≤ 9223372036854775807) : wrap64 x = x := by unfold wrap64; omega
def most : Int := 100000000000000
end Go.Proofs.YtnjhjaifmgjljaaDoor.Q
end

section
set_option linter.unusedSimpArgs false
namespace Go.Proofs.YtnjhjaifmgjljaaDoor.Q
open Go.RowKit Go.Proofs.YtnjhjaifmgjljaaDoor.PM Go.Proofs.YtnjhjaifmgjljaaDoorW.PrintWords Go.Proofs.YtnjhjaifmgjljaaDoorW.PrintLast Go.Proofs.YtnjhjaifmgjljaaDoorW.PrintMore
theorem u64 {x : Int} (h0 : 0 ≤ x) (h1 : x ≤ 18446744073709551615) : IntKind.u64.wrap x = x := by
  show x % 18446744073709551616 = x
  omega
def away (mode : Int) (minus : Bool) (q r n : Int) : Bool :=
  if mode = 1 then (minus && decide (r > 0)) else if mode = 2 then (!minus && decide (r > 0)) else if mode = 4 then (decide (r > n - r) || (decide (r = n - r) && !minus))
  else if mode = 5 then (decide (r > n - r) || (decide (r = n - r) && decide (q % 2 = 1))) else false
def rnd (mode : Int) (minus : Bool) (q r n : Int) : Int :=
  let m := if away mode minus q r n then q + 1 else q
  if minus then -m else m
theorem Ev.one {α : Type} {g : Nat → Option α} {r : α} (h : ∀ k, g (k + 1) = some r) : Ev g r := Ev.step (f := fun _ => some r) h (Ev.now r)
theorem rounded_j0 (q : Int) (minus up : Bool) (h0 : 0 ≤ q) (h1 : q ≤ 18446744073709551615) :
    Ev (fun k => money_rounded.j0 k q minus up) (if q > 4611686018427387904 then (0, false) else ((if minus then -(if up then q + 1 else q) else (if up then q + 1 else q)), true)) := by
  refine Ev.one fun k => ?_
  simp only [money_rounded.j0]
  by_cases hq : q > 4611686018427387904
  · rw [if_pos hq, if_pos hq]
  · rw [if_neg hq, if_neg hq]
    cases up <;> cases minus <;> simp <;> (try rw [u64 (x := q + 1) (by omega) (by omega)]) <;> (try rw [w64 (x := q + 1) (by omega) (by omega)]) <;> (try rw [w64 (x := q) (by omega) (by omega)]) <;> (try rw [w64 (by omega) (by omega)])
theorem rounded_is (mode : Int) (minus : Bool) (q r n : Int) (h0 : 0 ≤ q) (h1 : q ≤ 18446744073709551615) (hr0 : 0 ≤ r) (hr1 : r < n) (hn : n ≤ 9223372036854775807) :
    Ev (fun k => money_rounded.f k q r n minus mode) (if q > 4611686018427387904 then (0, false) else (rnd mode minus q r n, true)) := by
  have hj := fun up => rounded_j0 q minus up h0 h1
  have key : ∀ up, away mode minus q r n = up → (∀ k, money_rounded.f k q r n minus mode = money_rounded.j0 k q minus up) → Ev (fun k => money_rounded.f k q r n minus mode) (if q > 4611686018427387904 then (0, false) else (rnd mode minus q r n, true)) := by
    intro up hu hk
    refine Ev.congr hk ?_
    unfold rnd
    rw [hu]
    exact hj up
  have hsub : IntKind.u64.wrap (n - r) = n - r := u64 (by omega) (by omega)
  have htm : Int.tmod q 2 = q % 2 := Int.tmod_eq_emod_of_nonneg h0
  by_cases hr : r > 0
  · by_cases m1 : mode = 1
    · subst m1
      refine key minus (by simp [away, hr]) (fun k => ?_)
      unfold money_rounded.f; rw [if_pos hr, if_pos rfl]
    · by_cases m2 : mode = 2
      · subst m2
        refine key (!minus) (by simp [away, hr]) (fun k => ?_)
        unfold money_rounded.f; rw [if_pos hr, if_neg (by decide), if_pos rfl]
      · by_cases m4 : mode = 4
        · subst m4
          by_cases c1 : r > n - r
          · refine key true (by simp [away, c1]) (fun k => ?_)
            unfold money_rounded.f; rw [if_pos hr, if_neg (by decide), if_neg (by decide), if_pos rfl, hsub, if_pos c1]
          · by_cases c2 : r = n - r
            · refine key (!minus) (by simp [away, c1, ← c2]) (fun k => ?_)
              unfold money_rounded.f; rw [if_pos hr, if_neg (by decide), if_neg (by decide), if_pos rfl, hsub, if_neg c1, if_pos c2]
            · refine key false (by simp [away, c1, c2]) (fun k => ?_)
              unfold money_rounded.f; rw [if_pos hr, if_neg (by decide), if_neg (by decide), if_pos rfl, hsub, if_neg c1, if_neg c2]
        · by_cases m5 : mode = 5
          · subst m5
            by_cases c1 : r > n - r
            · refine key true (by simp [away, c1]) (fun k => ?_)
              unfold money_rounded.f; rw [if_pos hr, if_neg (by decide), if_neg (by decide), if_neg (by decide), if_pos rfl, hsub, if_pos c1]
            · by_cases c2 : r = n - r
              · refine key (q % 2 == 1) (by simp [away, c1, ← c2]; rw [Bool.eq_iff_iff]; simp) (fun k => ?_)
                unfold money_rounded.f; rw [if_pos hr, if_neg (by decide), if_neg (by decide), if_neg (by decide), if_pos rfl, hsub, if_neg c1, if_pos c2, htm]
              · refine key false (by simp [away, c1, c2]) (fun k => ?_)
                unfold money_rounded.f; rw [if_pos hr, if_neg (by decide), if_neg (by decide), if_neg (by decide), if_pos rfl, hsub, if_neg c1, if_neg c2]
          · refine key false (by simp [away, m1, m2, m4, m5]) (fun k => ?_)
            unfold money_rounded.f; rw [if_pos hr, if_neg m1, if_neg m2, if_neg m4, if_neg m5]
  · have hr' : r = 0 := by omega
    refine key false ?_ (fun k => by unfold money_rounded.f; rw [if_neg hr])
    subst hr'
    unfold away
    rw [show decide ((0 : Int) > n - 0) = false from decide_eq_false (by omega), show decide ((0 : Int) = n - 0) = false from decide_eq_false (by omega), show decide ((0 : Int) > 0) = false from rfl]
    simp
def aabs (n : Int) : Int := if n < 0 then -n else n
theorem amount_is (n : Int) (h0 : -10000000000000 < n) (h1 : n < 10000000000000) : money_amount.f n = some (aabs n, decide (n < 0)) := by
  unfold money_amount.f aabs
  by_cases h : n < 0
  · rw [if_pos h, if_pos h, w64 (by omega) (by omega), u64 (by omega) (by omega)]; simp [h]
  · rw [if_neg h, if_neg h, u64 (by omega) (by omega)]; simp [h]
theorem cents_is (n : Int) : money_cents.f n = some (boundS 1 n) := by
  unfold money_cents.f
  rw [checked_is 1 n (by decide) (by decide)]; rfl
theorem aabs_range (n : Int) (h0 : -10000000000000 < n) (h1 : n < 10000000000000) : 0 ≤ aabs n ∧ aabs n < 10000000000000 := by unfold aabs; split <;> omega
theorem over_far (mode : Int) (minus : Bool) (q r n : Int) (h : 100000000000000 ≤ q) : boundS 1 (rnd mode minus q r n) = (6, 1) := by
  unfold boundS
  rw [if_neg]
  have h1 : vld 1 (rnd mode minus q r n) = false := by
    unfold vld rnd
    simp
    cases minus <;> cases away mode _ q r n <;> simp <;> omega
  simp [h1]
end Go.Proofs.YtnjhjaifmgjljaaDoor.Q
end

section
set_option linter.unusedSimpArgs false
namespace Go.Proofs.YtnjhjaifmgjljaaDoor.Pure
open Go.RowKit Go.Proofs.YtnjhjaifmgjljaaDoor.PM Go.Proofs.YtnjhjaifmgjljaaDoor.Q Go.Proofs.YtnjhjaifmgjljaaDoorW.PrintWords Go.Proofs.YtnjhjaifmgjljaaDoorW.PrintLast Go.Proofs.YtnjhjaifmgjljaaDoorW.PrintMore
theorem Ev.seen (l : List S23) (hl : l.length ≤ 1000000000) : Ev (fun k => money_seen.f k l) (seenR (flt l)) := ⟨l.length + 1, fun k hk => seen_is l hl k (by omega)⟩
theorem vld_cents {b : Int} (h : vld 1 b = true) : -10000000000000 < b ∧ b < 10000000000000 := by
  simp [vld] at h; omega
theorem modes_is (m : Int) : money_modes.f m = some (decide (1 ≤ m ∧ m ≤ 5)) := by
  unfold money_modes.f
  by_cases h : 1 ≤ m <;> simp [h]
end Go.Proofs.YtnjhjaifmgjljaaDoor.Pure
end

section
set_option linter.unusedSimpArgs false
namespace Go.Proofs.YtnjhjaifmgjljaaDoor.Pure
open Go.RowKit Go.Proofs.YtnjhjaifmgjljaaDoor.PM Go.Proofs.YtnjhjaifmgjljaaDoor.Q Go.Proofs.YtnjhjaifmgjljaaDoorW.PrintWords Go.Proofs.YtnjhjaifmgjljaaDoorW.PrintLast Go.Proofs.YtnjhjaifmgjljaaDoorW.PrintMore
def roundS (a b u m : Int) : Int × Int :=
  match flt [⟨a, b⟩] with
  | some v => v
  | none => if a = 1 ∧ 1 ≤ u ∧ u ≤ 9999999999999 ∧ 1 ≤ m ∧ m ≤ 5 then boundS 1 (wrap64 (rnd m (decide (b < 0)) (aabs b / u) (aabs b % u) u * u)) else (6, 5)
theorem round_bad (u m a b : Int) : Ev (fun k => money_Round.j0 k u m true a b) (6, 5) := Ev.one fun k => by simp [money_Round.j0, money_fault.f]
theorem round_good (u m b a : Int) (hb : -10000000000000 < b ∧ b < 10000000000000) (hu : 1 ≤ u) (hu1 : u ≤ 9999999999999) :
    Ev (fun k => money_Round.j0 k u m false a b) (boundS 1 (wrap64 (rnd m (decide (b < 0)) (aabs b / u) (aabs b % u) u * u))) := by
  have ha := aabs_range b hb.1 hb.2
  have hq0 : 0 ≤ aabs b / u := Int.ediv_nonneg ha.1 (by omega)
  have hq1 : aabs b / u ≤ aabs b := Int.ediv_le_self _ ha.1
  have hr0 := Int.emod_nonneg (aabs b) (show u ≠ 0 by omega)
  have hr1 := Int.emod_lt_of_pos (aabs b) (show 0 < u by omega)
  have h := rounded_is m (decide (b < 0)) (aabs b / u) (aabs b % u) u hq0 (by omega) hr0 hr1 (by omega)
  rw [if_neg (by omega)] at h
  refine Ev.step (f := fun k => (money_rounded.f k (aabs b / u) (aabs b % u) u (decide (b < 0)) m).bind fun bt => (money_cents.f (wrap64 (bt.1 * u))).bind fun c => some (c.1, c.2)) (fun k => ?_)
    (Ev.bind h (Ev.congr (fun k => ?_) (Ev.now (boundS 1 (wrap64 (rnd m (decide (b < 0)) (aabs b / u) (aabs b % u) u * u))))))
  · simp only [money_Round.j0]
    rw [if_neg (by simp), amount_is b hb.1 hb.2]
    simp only [Option.bind_some]
    rw [u64 (x := u) (by omega) (by omega), if_neg (by omega), Int.tdiv_eq_ediv_of_nonneg ha.1, Int.tmod_eq_emod_of_nonneg ha.1, u64 (x := aabs b / u) hq0 (by omega)]
  · rw [cents_is]; rfl
theorem round_is (a b u m : Int) : Ev (fun k => money_Round.f k a b u m) (roundS a b u m) := by
  unfold money_Round.f roundS
  refine Ev.bind (Ev.seen [⟨a, b⟩] (by simp)) ?_
  cases hf : flt [⟨a, b⟩] with
  | some v => simp only [seenR]; exact Ev.congr (fun k => by simp) (Ev.now v)
  | none =>
    have hv := (flt_none hf ⟨a, b⟩ (by simp)).2.2
    simp only [seenR, if_true]
    by_cases ha : a = 1
    · subst ha
      simp only [if_true]
      by_cases h1 : u < 1
      · simp only [if_pos h1]; rw [if_neg (by omega)]; exact round_bad _ _ _ _
      · by_cases h2 : u > 9999999999999
        · simp only [if_neg h1, if_pos h2]; rw [if_neg (by omega)]; exact round_bad _ _ _ _
        · simp only [if_neg h1, if_neg h2, modes_is, Option.bind_some]
          by_cases hm : 1 ≤ m ∧ m ≤ 5
          · rw [if_pos ⟨by simp, by omega, by omega, hm.1, hm.2⟩]
            simp only [decide_eq_true hm, Bool.not_true]
            exact round_good u m b 1 (vld_cents hv) (by omega) (by omega)
          · rw [if_neg (by omega)]
            simp only [decide_eq_false hm, Bool.not_false]
            exact round_bad _ _ _ _
    · simp only [if_neg ha]
      rw [if_neg (fun h => ha h.1)]
      exact round_bad _ _ _ _
end Go.Proofs.YtnjhjaifmgjljaaDoor.Pure
end

section
set_option linter.unusedSimpArgs false
namespace Go.Proofs.YtnjhjaifmgjljaaDoor.Pure
open Go.RowKit Go.Proofs.YtnjhjaifmgjljaaDoor.PM Go.Proofs.YtnjhjaifmgjljaaDoor.Q Go.Proofs.YtnjhjaifmgjljaaDoorW.PrintWords Go.Proofs.YtnjhjaifmgjljaaDoorW.PrintLast Go.Proofs.YtnjhjaifmgjljaaDoorW.PrintMore
theorem vld_count {b : Int} (h : vld 2 b = true) : -1000000000 ≤ b ∧ b ≤ 1000000000 := by
  simp [vld] at h; omega
theorem mul_range (b d : Int) (hb : -10000000000000 < b ∧ b < 10000000000000) (hd : -1000000000 ≤ d ∧ d ≤ 1000000000) : 0 ≤ aabs b * aabs d ∧ aabs b * aabs d ≤ 10000000000000 * 1000000000 := by
  have h1 := aabs_range b hb.1 hb.2
  have h2 : 0 ≤ aabs d ∧ aabs d ≤ 1000000000 := by unfold aabs; split <;> omega
  exact ⟨Int.mul_nonneg h1.1 h2.1, Int.mul_le_mul (by omega) h2.2 h2.1 (by decide)⟩
theorem mul64_is (x y : Int) (hx : 0 ≤ x ∧ x < 18446744073709551616) (hy : 0 ≤ y ∧ y < 18446744073709551616) : bits_Mul64.f x y = some (x * y / 18446744073709551616, x * y % 18446744073709551616) := by
  unfold bits_Mul64.f; rw [if_pos ⟨hx.1, hx.2, hy.1, hy.2⟩]
end Go.Proofs.YtnjhjaifmgjljaaDoor.Pure
end
