-- Part 5 of the texts of the claim SA (wrote by programs: words of the kit's print.sh, printed functions; and my own texts; joined by wip/tools/pack.py).
import Derived.Test.YtnjhjaifmgjljaaDoorSA4

section
namespace Go.Proofs.YtnjhjaifmgjljaaDoor.PM
open Go.RowKit Go.Proofs.YtnjhjaifmgjljaaDoorW.PrintWords Go.Proofs.YtnjhjaifmgjljaaDoorW.PrintLast Go.Proofs.YtnjhjaifmgjljaaDoorW.PrintMore
attribute [local go_sem] max2_int min2_int max_two min_two max_three min_three max_four min_four
set_option linter.unusedVariables false
set_option linter.unusedSimpArgs false
mutual
def money_Bracket.j0 : Nat → List (S72) → Bool → Int → Int → Option (Int × Int)
 | 0, _, _, _, _ => none
 | k + 1, x0, x29, x642000, x642001 => if x29 = true then ((money_fault.f 5).bind fun bt651 => (some (bt651.1, bt651.2))) else (money_Bracket.l0 k x0 0 x0 (x0.length : Int) 0 x642000 x642001)
def money_Bracket.l0 : Nat → List (S72) → Int → List (S72) → Int → Int → Int → Int → Option (Int × Int)
 | 0, _, _, _, _, _, _, _ => none
 | k + 1, x0, x7, x31, x32, x33, x642000, x642001 => if x33 < x32 then (if 0 ≤ x33 then (if x33 < (x31.length : Int) then (if (wrap64 (x33 + 1)) < (x0.length : Int) then (if 0 ≤ (wrap64 (x33 + 1)) then (if (mn x642001 ((rd_T72 x0 (wrap64 (x33 + 1))).f0)) > ((rd_T72 x31 x33).f0) then (money_Bracket.l0 k x0 (IntKind.u64.wrap (x7 + (IntKind.u64.wrap ((IntKind.u64.wrap (wrap64 ((mn x642001 ((rd_T72 x0 (wrap64 (x33 + 1))).f0)) - ((rd_T72 x31 x33).f0)))) * (IntKind.u64.wrap ((rd_T72 x31 x33).f1)))))) x31 x32 (wrap64 (x33 + 1)) x642000 x642001) else (money_Bracket.l0 k x0 x7 x31 x32 (wrap64 (x33 + 1)) x642000 x642001)) else (none)) else (if x642001 > ((rd_T72 x31 x33).f0) then (money_Bracket.l0 k x0 (IntKind.u64.wrap (x7 + (IntKind.u64.wrap ((IntKind.u64.wrap (wrap64 (x642001 - ((rd_T72 x31 x33).f0)))) * (IntKind.u64.wrap ((rd_T72 x31 x33).f1)))))) x31 x32 (wrap64 (x33 + 1)) x642000 x642001) else (money_Bracket.l0 k x0 x7 x31 x32 (wrap64 (x33 + 1)) x642000 x642001))) else (none)) else (none)) else ((money_rounded.f k (IntKind.u64.wrap (Int.tdiv x7 1000000)) (Int.tmod x7 1000000) 1000000 false 4).bind fun bt653 => ((money_cents.f bt653.1).bind fun bt655 => (some (bt655.1, bt655.2))))
end
def money_Bracket.f (k : Nat) (l0 : List (S72)) (a1_0 : Int) (a1_1 : Int) : Option (Int × Int) := (money_seen.f k (([(⟨a1_0, a1_1⟩ : S23)] : List (S23)))).bind fun bt646 => (if bt646.2.2 = true then (if a1_0 = 1 then ((money_table.f k l0).bind fun t650 => (money_Bracket.j0 k l0 (!t650) a1_0 a1_1)) else (money_Bracket.j0 k l0 true a1_0 a1_1)) else (some (bt646.1, bt646.2.1)))
theorem money_Bracket.mono_l : ∀ k, (∀ y0 y1 y2 y3, LeO (money_Bracket.j0 k y0 y1 y2 y3) (money_Bracket.j0 (k + 1) y0 y1 y2 y3)) ∧ (∀ y0 y1 y2 y3 y4 y5 y6, LeO (money_Bracket.l0 k y0 y1 y2 y3 y4 y5 y6) (money_Bracket.l0 (k + 1) y0 y1 y2 y3 y4 y5 y6))
 | 0 => ⟨fun _ _ _ _ r h => by simp [money_Bracket.j0] at h, fun _ _ _ _ _ _ _ r h => by simp [money_Bracket.l0] at h⟩
 | k + 1 => by
  obtain ⟨ih0, ih1⟩ := money_Bracket.mono_l k
  refine ⟨?_, ?_⟩
  ·intro y0 y1 y2 y3
   unfold money_Bracket.j0
   repeat' first
   | (with_reducible exact ih0 _ _ _ _)
   | (with_reducible exact ih1 _ _ _ _ _ _ _)
   | (with_reducible exact money_rounded.mono _ _ _ _ _ _)
   | (with_reducible exact money_seen.mono _ _)
   | (with_reducible exact money_table.mono _ _)
   | (with_reducible exact LeO.refl _)
   | (with_reducible exact LeO.none _)
   | (with_reducible refine LeO.ite ?_ ?_)
   | (with_reducible refine LeO.bind ?_ (fun _ => ?_))
   | exact ih0 _ _ _ _
   | exact ih1 _ _ _ _ _ _ _
   | exact money_rounded.mono _ _ _ _ _ _
   | exact money_seen.mono _ _
   | exact money_table.mono _ _
   | exact LeO.none _
   | refine LeO.ite ?_ ?_
   | refine LeO.bind ?_ (fun _ => ?_)
  ·intro y0 y1 y2 y3 y4 y5 y6
   unfold money_Bracket.l0
   repeat' first
   | (with_reducible exact ih0 _ _ _ _)
   | (with_reducible exact ih1 _ _ _ _ _ _ _)
   | (with_reducible exact money_rounded.mono _ _ _ _ _ _)
   | (with_reducible exact money_seen.mono _ _)
   | (with_reducible exact money_table.mono _ _)
   | (with_reducible exact LeO.refl _)
   | (with_reducible exact LeO.none _)
   | (with_reducible refine LeO.ite ?_ ?_)
   | (with_reducible refine LeO.bind ?_ (fun _ => ?_))
   | exact ih0 _ _ _ _
   | exact ih1 _ _ _ _ _ _ _
   | exact money_rounded.mono _ _ _ _ _ _
   | exact money_seen.mono _ _
   | exact money_table.mono _ _
   | exact LeO.none _
   | refine LeO.ite ?_ ?_
   | refine LeO.bind ?_ (fun _ => ?_)
theorem money_Bracket.mono : ∀ a0 a1 a2 k, LeO (money_Bracket.f k a0 a1 a2) (money_Bracket.f (k + 1) a0 a1 a2) := by
 intro a0 a1 a2 k
 obtain ⟨ih0, ih1⟩ := money_Bracket.mono_l k
 unfold money_Bracket.f
 repeat' first
   | (with_reducible exact ih0 _ _ _ _)
   | (with_reducible exact ih1 _ _ _ _ _ _ _)
   | (with_reducible exact money_rounded.mono _ _ _ _ _ _)
   | (with_reducible exact money_seen.mono _ _)
   | (with_reducible exact money_table.mono _ _)
   | (with_reducible exact LeO.refl _)
   | (with_reducible exact LeO.none _)
   | (with_reducible refine LeO.ite ?_ ?_)
   | (with_reducible refine LeO.bind ?_ (fun _ => ?_))
   | exact ih0 _ _ _ _
   | exact ih1 _ _ _ _ _ _ _
   | exact money_rounded.mono _ _ _ _ _ _
   | exact money_seen.mono _ _
   | exact money_table.mono _ _
   | exact LeO.none _
   | refine LeO.ite ?_ ?_
   | refine LeO.bind ?_ (fun _ => ?_)
set_option maxHeartbeats 8000000 in
set_option maxRecDepth 100000 in
theorem money_Bracket.calls (k : Nat) (A0 : Option Addr) (c0 : Nat) (l0 : List (S72)) (a1_0 : Int) (a1_1 : Int) (r1 : Int) (r2 : Int) (w : World) (hr0 : Kd.C k72 w A0 l0.length l0) (hc0 : l0.length ≤ c0) (h : money_Bracket.f k l0 a1_0 a1_1 = some (r1, r2)) (hg0 : Kd.C k87 w (some ⟨0, 0, none⟩) gtab0.length gtab0) :
  Calls Tryd.prog 45 #[.slice A0 l0.length c0, .agg #[.int .i64 a1_0, .int .i64 a1_1]] w fun e w' => e = .returned (.agg #[.int .i64 r1, .int .i64 r2]) ∧ Below w.heap.size w w' := by
 have HG0 := Aside0.mk hg0
 clear hg0
 have hu23 := Tryd.underlying23
 have hu72 := Tryd.underlying72
 have HR0 := Aside0.mk hr0
 have HC0 := Aside0.mk hc0
 clear hr0 hc0
 have HB := Aside0.mk (Below.refl w.heap.size w)
 have H : ((money_seen.f k (([(⟨a1_0, a1_1⟩ : S23)] : List (S23)))).bind fun bt646 => (if bt646.2.2 = true then (if a1_0 = 1 then ((money_table.f k l0).bind fun t650 => (money_Bracket.j0 k l0 (!t650) a1_0 a1_1)) else (money_Bracket.j0 k l0 true a1_0 a1_1)) else (some (bt646.1, bt646.2.1)))) = some (r1, r2) := h
 clear h
 obtain ⟨y643, hy643⟩ : ∃ y_ : List (S23), y_ = (([(⟨a1_0, a1_1⟩ : S23)] : List (S23))) := ⟨_, rfl⟩
 replace H : ((money_seen.f k y643).bind fun bt646 => (if bt646.2.2 = true then (if a1_0 = 1 then ((money_table.f k l0).bind fun t650 => (money_Bracket.j0 k l0 (!t650) a1_0 a1_1)) else (money_Bracket.j0 k l0 true a1_0 a1_1)) else (some (bt646.1, bt646.2.1)))) = some (r1, r2) := by first | (rw [hy643]; with_reducible exact H) | (have H2_ := (Option.bind_some _ _).symm.trans H; rw [hy643]; with_reducible exact H2_) | (have H2_ := (Option.bind_some _ _).symm.trans H; with_reducible exact H2_) | with_reducible exact H | (rw [hy643]; exact H) | exact H
 have Ny643 := Aside0.mk hy643
 clear hy643
 replace H := Option.bind_eq_some_iff.mp H
 obtain ⟨⟨t646, t647, t648⟩, A30, H⟩ := H
 replace H : (if t648 = true then (if a1_0 = 1 then ((money_table.f k l0).bind fun t650 => (money_Bracket.j0 k l0 (!t650) a1_0 a1_1)) else (money_Bracket.j0 k l0 true a1_0 a1_1)) else (some (t646, t647))) = some (r1, r2) := H
 have A3 := Aside0.mk A30
 clear A30
 by_cases c4 : t648 = true
 ·subst c4
  have H1 : (if a1_0 = 1 then ((money_table.f k l0).bind fun t650 => (money_Bracket.j0 k l0 (!t650) a1_0 a1_1)) else (money_Bracket.j0 k l0 true a1_0 a1_1)) = some (r1, r2) := by rw [if_pos rfl] at H; exact H
  clear H
  have H := H1
  clear H1
  have HC5 := Aside0.mk H
  clear H
  go_enter Tryd.func45, Tryd.ntmps45
  go_upto_region 4 with (first | ((with_reducible refine gate_dst (N := 3) rfl ?_); refine bxe (N := 3) (cs := #[.int .i64 a1_0, .int .i64 a1_1]) (t := 23) ?_; intro gb641 hg w6 hbox hb; have BK641 := Aside0.mk (hbox); have GW641 : Aside0 (w.heap.size ≤ gb641) := gwx hg; have GE641 : Aside0 (w.heap.size ≤ gb641) := gwx hg; replace HB := Aside0.mk (below_step blx hb); clear hb hbox hg) | ((with_reducible refine gate_dst (N := 4) rfl ?_); refine bxe (N := 4) (cs := #[.int .i64 0, .int .i64 0]) (t := 23) ?_; intro gb642 hg w7 hbox hb; have BK642 := Aside0.mk (hbox); have GW642 : Aside0 (w.heap.size ≤ gb642) := gwx hg; have GE642 : Aside0 (w.heap.size ≤ gb642) := gwx hg; replace HB := Aside0.mk (below_step blx hb); have NB641_642 := nbl BK641 hg; have NB642_641 := nbg BK641 hg; replace BK641 := bkq BK641 hb; clear hb hbox hg; have hnb8 := NB641_642.out; have hnc8 := NB642_641.out; obtain ⟨hcz9_0, hcz9_1, hfz9_0, hfz9_1⟩ := c2_ BK641) | ((with_reducible refine gate_dst (N := 15) rfl ?_); refine Kd.R_lit k23 _ 23 ?hg (N := 15) ?hd (xs := ([(⟨a1_0, a1_1⟩ : S23)] : List (S23))) (inner := [.int .i64 a1_0, .int .i64 a1_1]) (ok := fun _ => True) (okp := fun _ => True) ?hr ?hp (fun _ hk => hk) trivial (Below.refl _ _) (Nat.le_refl _) (by simp) ?_; (case hd => rfl); (case hg => rfl); (case hr => first | (go_simp; done) | (go_simp; rfl)); (case hp => exact (Reps.c2 (show Kd.M k23 _ _ _ (⟨a1_0, a1_1⟩ : S23) [.int .i64 a1_0, .int .i64 a1_1] from (k23_mkM _ _ _ (⟨a1_0, a1_1⟩ : S23) )) (Reps.none _ _))); intro v644 w10 ho11 hb hg_ hnew_; clear hg_ hnew_; (first | rw [← Ny643.out] at ho11 | (simp only [Int.reduceToNat] at ho11; rw [← Ny643.out] at ho11)); have HO645 := Aside0.mk (Kd.R_lower (Kd.R_newB (Kd.R_newB ho11 (g := gb641) (o := .cells #[.int .i64 a1_0, .int .i64 a1_1] 23 (0, 0)) bkx) (g := gb642) (o := .cells #[.int .i64 0, .int .i64 0] 23 (0, 0)) bkx) (below_size blx)); replace BK641 := bkq BK641 hb; replace BK642 := bkq BK642 hb; replace HB := Aside0.mk (below_step blx hb); clear hb ho11; obtain ⟨Ao12, co12, eo12⟩ := Kd.R_slice HO645.out; subst eo12) | ((with_reducible refine gate_callee (f := 65) rfl ?_); refine goesL_ (some 16) rfl rfl Tryd.func65 (by kernel_rfl) rfl #[.slice Ao12 y643.length co12] rfl agx ?_; (with_reducible refine (money_seen.calls k _ _ y643 t646 t647 true _ ?side1 ?side2 A3.out (by first | exact HG0.out | exact Kd.C_below HG0.out blx)).mono ?_); (case side1 => exact crx HO645); (case side2 => exact (Kd.R_reads' HO645.out).2.1); rintro e w13 ⟨rfl, hb⟩; refine ⟨_, rfl, ?_⟩; replace HO645 := hoq HO645 hb; replace BK641 := bkq BK641 hb; replace BK642 := bkq BK642 hb; replace HB := Aside0.mk (below_step blx hb); (try clear hb); (try clear hb2); (try clear hk); (try clear hi)) | ((with_reducible refine gate_dst (N := 5) rfl ?_); refine bxe (N := 5) (cs := #[.int .i64 0, .int .i64 0]) (t := 23) ?_; intro gb649 hg w14 hbox hb; replace HO645 := Aside0.mk (Kd.R_below (Kd.R_elderB (by (with_reducible repeat (first | apply Kd.R_alloc | apply Kd.R_drewN | apply Kd.R_drew)); exact HO645.out) gb649 (Nat.le_of_eq hg.symm)) hb); have BK649 := Aside0.mk (hbox); have GW649 : Aside0 (w.heap.size ≤ gb649) := gwx hg; have GE649 : Aside0 (w.heap.size ≤ gb649) := gwx hg; replace HB := Aside0.mk (below_step blx hb); have NB641_649 := nbl BK641 hg; have NB649_641 := nbg BK641 hg; replace BK641 := bkq BK641 hb; have NB642_649 := nbl BK642 hg; have NB649_642 := nbg BK642 hg; replace BK642 := bkq BK642 hb; clear hb hbox hg; have hnb15 := NB649_641.out; have hnc15 := NB641_649.out; have hnb16 := NB649_642.out; have hnc16 := NB642_649.out; obtain ⟨hcz17_0, hcz17_1, hfz17_0, hfz17_1⟩ := c2_ BK649))
  (try simp only [Act.put, List.setIfInBounds_toArray, List.set_cons_zero, List.set_cons_succ])
  go_cut [29] (fun v29 wc => ∃ (kq : Nat) (x29_4 : Bool), v29 = .bool x29_4 ∧ Aside0 (money_Bracket.j0 kq l0 x29_4 a1_0 a1_1 = some (r1, r2)) ∧ Aside0 (kq ≤ k) ∧ Aside0 (wc.heap[gb641]? = some (.cells #[.int .i64 a1_0, .int .i64 a1_1] 23 (0, 0))) ∧ Aside0 (wc.heap[gb642]? = some (.cells #[.int .i64 0, .int .i64 0] 23 (0, 0))) ∧ Aside0 (wc.heap[gb649]? = some (.cells #[.int .i64 t646, .int .i64 t647] 23 (0, 0))) ∧ Aside0 (Below w.heap.size w wc))
  case first =>
   have H := HC5.out
   clear HC5
   by_cases c18 : a1_0 = 1
   ·rw [if_pos c18] at H
    have c18b0 : (a1_0 == 1) = true := beq_iff_eq.mpr c18
    have c18b1 : (a1_0 != 1) = false := bne_eq_false_iff_eq.mpr c18
    clear c18
    (first | rw [c18b0] | (simp only [i64_w, i32_w]; rw [c18b0]) | skip)
    replace H := Option.bind_eq_some_iff.mp H
    obtain ⟨t650, A190, H⟩ := H
    replace H : (money_Bracket.j0 k l0 (!t650) a1_0 a1_1) = some (r1, r2) := H
    have A19 := Aside0.mk A190
    clear A190
    have H' := Aside0.mk H
    clear H
    have hnb20 := NB641_642.out
    have hnc20 := NB642_641.out
    have hnb21 := NB641_649.out
    have hnc21 := NB649_641.out
    obtain ⟨hcz22_0, hcz22_1, hfz22_0, hfz22_1⟩ := c2_ BK641
    go_wp2_with (first | (go_at_call 78; (with_reducible refine (money_table.calls k _ _ l0 t650 _ ?side1 ?side2 A19.out).mono ?_); (case side1 => exact Kd.C_below HR0.out blx); (case side2 => exact HC0.out); rintro e w23 ⟨rfl, hb⟩; replace HO645 := Aside0.mk (Kd.R_below (by (with_reducible repeat (first | apply Kd.R_alloc | apply Kd.R_drewN | apply Kd.R_drew)); exact (Kd.R_mono (Kd.R_far (p := ⟨gb649, 1, none⟩) (Kd.R_far (p := ⟨gb649, 0, none⟩) (Kd.R_mono HO645.out (fun k_ hk => (⟨hk, hk.2⟩ : _ ∧ k_ ≠ gb649))) (fun _ hk => hk.2) (.int .i64 t646)) (fun _ hk => hk.2) (.int .i64 t647)) (fun _ h_ => h_.1))) hb); replace BK641 := bkq BK641 hb; replace BK642 := bkq BK642 hb; replace BK649 := Aside0.mk (blk_below (g := gb649) (o := .cells #[.int .i64 t646, .int .i64 t647] 23 (0, 0)) (by (with_reducible repeat (first | refine blk_drewN ?_ _ | refine blk_drew ?_ | refine blk_alloc ?_ _)); refine blk_put (cs := #[.int .i64 t646, .int .i64 0]) ?_ 1 _ rfl; (with_reducible repeat (first | refine blk_drewN ?_ _ | refine blk_drew ?_ | refine blk_alloc ?_ _)); refine blk_put (cs := #[.int .i64 0, .int .i64 0]) ?_ 0 _ rfl; (with_reducible repeat (first | refine blk_drewN ?_ _ | refine blk_drew ?_ | refine blk_alloc ?_ _)); exact BK649.out) hb); replace HB := Aside0.mk (below_step blx hb); (try clear hb); (try clear hb2); (try clear hk); (try clear hi)))
    go_meet
    case rel => exact ⟨_, (!t650), (by first | rfl | (simp; done) | (simp [*]; done)), H', ⟨by first | omega | exact Nat.le_refl _⟩, ⟨bkx⟩, ⟨bkx⟩, ⟨bkx⟩, ⟨blx⟩⟩
   ·rw [if_neg c18] at H
    have c18b0 : (a1_0 == 1) = false := beq_eq_false_iff_ne.mpr c18
    have c18b1 : (a1_0 != 1) = true := bne_iff_ne.mpr c18
    (first | rw [c18b0] | (simp only [i64_w, i32_w]; rw [c18b0]) | skip)
    have H' := Aside0.mk H
    clear H
    have hnb24 := NB641_642.out
    have hnc24 := NB642_641.out
    have hnb25 := NB641_649.out
    have hnc25 := NB649_641.out
    obtain ⟨hcz26_0, hcz26_1, hfz26_0, hfz26_1⟩ := c2_ BK641
    go_wp2
    go_meet
    case rel => exact ⟨_, (true), (by first | rfl | (simp; done) | (simp [*]; done)), H', ⟨by first | omega | exact Nat.le_refl _⟩, ⟨bkx⟩, ⟨bkx⟩, ⟨by (with_reducible repeat (first | refine blk_drewN ?_ _ | refine blk_drew ?_ | refine blk_alloc ?_ _)); refine blk_put (cs := #[.int .i64 t646, .int .i64 0]) ?_ 1 _ rfl; (with_reducible repeat (first | refine blk_drewN ?_ _ | refine blk_drew ?_ | refine blk_alloc ?_ _)); refine blk_put (cs := #[.int .i64 0, .int .i64 0]) ?_ 0 _ rfl; (with_reducible repeat (first | refine blk_drewN ?_ _ | refine blk_drew ?_ | refine blk_alloc ?_ _)); exact BK649.out⟩, ⟨blx⟩⟩
  case rest =>
   clear HC5
   try clear c1
   try clear c2
   try clear p2
   try clear c4
   try clear c6
   try clear c8
   try clear c15
   try clear c16
   try clear c18
   try clear c18b0
   try clear c18b1
   try clear c20
   try clear c21
   try clear c24
   try clear c25
   try clear hcz17_0
   try clear hcz17_1
   try clear hcz22_0
   try clear hcz22_1
   try clear hcz26_0
   try clear hcz26_1
   try clear hcz9_0
   try clear hcz9_1
   try clear hfz17_0
   try clear hfz17_1
   try clear hfz22_0
   try clear hfz22_1
   try clear hfz26_0
   try clear hfz26_1
   try clear hfz9_0
   try clear hfz9_1
   obtain ⟨kq, x29_4, rfl, HA, HJ4, BK641, BK642, BK649, HB⟩ := hcut
   cases kq with
   | zero => exact absurd HA.out (by simp [money_Bracket.j0])
   | succ kj4 =>
    have H := HA.out
    clear HA
    simp only [money_Bracket.j0] at H
    by_cases c27 : x29_4 = true
    ·subst c27
     have H1 : ((money_fault.f 5).bind fun bt651 => (some (bt651.1, bt651.2))) = some (r1, r2) := by rw [if_pos rfl] at H; exact H
     clear H
     have H := H1
     clear H1
     replace H := Option.bind_eq_some_iff.mp H
     obtain ⟨⟨t651, t652⟩, A280, H⟩ := H
     replace H : (some (t651, t652)) = some (r1, r2) := H
     have A28 := Aside0.mk A280
     clear A280
     simp only [Option.some.injEq, Prod.mk.injEq] at H
     obtain ⟨rfl, rfl⟩ := H
     go_wp2_with (first | ((with_reducible refine gate_callee (f := 59) rfl ?_); refine goesL_ (some 30) rfl rfl Tryd.func59 (by kernel_rfl) rfl #[.int .i64 5] rfl agx ?_; (with_reducible refine (money_fault.calls 5 t651 t652 _ A28.out).mono ?_); rintro e w29 ⟨rfl, hb⟩; refine ⟨_, rfl, ?_⟩; replace BK641 := bkq BK641 hb; replace BK642 := bkq BK642 hb; replace BK649 := bkq BK649 hb; replace HB := Aside0.mk (below_step blx hb); (try clear hb); (try clear hb2); (try clear hk); (try clear hi); have hnb30 := NB642_641.out; have hnc30 := NB641_642.out; have hnb31 := NB642_649.out; have hnc31 := NB649_642.out; obtain ⟨hcz32_0, hcz32_1, hfz32_0, hfz32_1⟩ := c2_ BK642))
     refine bodyPost_ret (results_cell_row rfl _ _ gb642 23 #[.int .i64 t651, .int .i64 t652] (0, 0) _ rfl (by (with_reducible repeat (first | refine blk_drewN ?_ _ | refine blk_drew ?_ | refine blk_alloc ?_ _)); refine blk_put (cs := #[.int .i64 t651, .int .i64 0]) ?_ 1 _ rfl; (with_reducible repeat (first | refine blk_drewN ?_ _ | refine blk_drew ?_ | refine blk_alloc ?_ _)); refine blk_put (cs := #[.int .i64 0, .int .i64 0]) ?_ 0 _ rfl; (with_reducible repeat (first | refine blk_drewN ?_ _ | refine blk_drew ?_ | refine blk_alloc ?_ _)); exact BK642.out) Tryd.underlying23 rfl (by kernel_rfl)) rfl ?_
     exact ⟨by first | rfl | (simp [errW_none, errW_some] <;> rfl) | (simp [*, errW_none, errW_some] <;> rfl), blx⟩
    ·replace c27 := Bool.eq_false_iff.mpr c27
     subst c27
     have H1 : (money_Bracket.l0 kj4 l0 0 l0 (l0.length : Int) 0 a1_0 a1_1) = some (r1, r2) := by rw [if_neg (show ¬ (false = true) by decide)] at H; exact H
     clear H
     have H := H1
     clear H1
     have H' := Aside0.mk H
     clear H
     go_wp2
     go_loopg [7, 33] kj4 (fun kq v7 v33 w' => ∃ (x7_2 : Int) (x33_2 : Int), v7 = .int .u64 x7_2 ∧ v33 = .int .i64 x33_2 ∧ Aside0 (money_Bracket.l0 kq l0 x7_2 l0 (l0.length : Int) x33_2 a1_0 a1_1 = some (r1, r2)) ∧ Aside0 (kq ≤ kj4) ∧ Aside0 (w'.heap[gb641]? = some (.cells #[.int .i64 a1_0, .int .i64 a1_1] 23 (0, 0))) ∧ Aside0 (w'.heap[gb642]? = some (.cells #[.int .i64 0, .int .i64 0] 23 (0, 0))) ∧ Aside0 (w'.heap[gb649]? = some (.cells #[.int .i64 t646, .int .i64 t647] 23 (0, 0))) ∧ Aside0 (Below w.heap.size w w'))
     case atStart => exact ⟨(0), (0), (by first | rfl | (simp; done) | (simp [*]; done)), (by first | rfl | (simp; done) | (simp [*]; done)), H', ⟨Nat.le_refl _⟩, ⟨bkx⟩, ⟨bkx⟩, ⟨bkx⟩, ⟨blx⟩⟩
     case round =>
      clear H'
      try clear c1
      try clear c2
      try clear p2
      try clear c3
      try clear c4
      try clear c5
      try clear c6
      try clear c8
      try clear c15
      try clear c16
      try clear c18
      try clear c18b0
      try clear c18b1
      try clear c20
      try clear c21
      try clear c24
      try clear c25
      try clear c27
      try clear c30
      try clear c31
      try clear hcz17_0
      try clear hcz17_1
      try clear hcz22_0
      try clear hcz22_1
      try clear hcz26_0
      try clear hcz26_1
      try clear hcz32_0
      try clear hcz32_1
      try clear hcz9_0
      try clear hcz9_1
      try clear hfz17_0
      try clear hfz17_1
      try clear hfz22_0
      try clear hfz22_1
      try clear hfz26_0
      try clear hfz26_1
      try clear hfz32_0
      try clear hfz32_1
      try clear hfz9_0
      try clear hfz9_1
      try clear p2
      obtain ⟨x7_2, x33_2, rfl, rfl, HA, HK2, BK641, BK642, BK649, HB⟩ := hrel
      cases gk with
      | zero => exact absurd HA.out (by simp [money_Bracket.l0])
      | succ k2 =>
       have H := HA.out
       clear HA
       simp only [money_Bracket.l0] at H
       by_cases c33 : x33_2 < (l0.length : Int)
       ·rw [if_pos c33] at H
        have c33b0 : decide (x33_2 < (l0.length : Int)) = true := decide_eq_true c33
        clear c33
        by_cases c34 : 0 ≤ x33_2
        ·rw [if_pos c34] at H
         have c34b0 : decide (0 ≤ x33_2) = true := decide_eq_true c34
         clear c34
         by_cases c35 : x33_2 < (l0.length : Int)
         ·rw [if_pos c35] at H
          have c35b0 : decide (x33_2 < (l0.length : Int)) = true := decide_eq_true c35
          clear c35
          by_cases c36 : (wrap64 (x33_2 + 1)) < (l0.length : Int)
          ·rw [if_pos c36] at H
           have c36b0 : decide ((wrap64 (x33_2 + 1)) < (l0.length : Int)) = true := decide_eq_true c36
           clear c36
           obtain ⟨ji37, hji37⟩ : ∃ j_ : Int, (wrap64 (x33_2 + 1)) = j_ := ⟨_, rfl⟩
           replace H : (if 0 ≤ (ji37) then (if (mn a1_1 ((rd_T72 l0 (ji37)).f0)) > ((rd_T72 l0 x33_2).f0) then (money_Bracket.l0 k2 l0 (IntKind.u64.wrap (x7_2 + (IntKind.u64.wrap ((IntKind.u64.wrap (wrap64 ((mn a1_1 ((rd_T72 l0 (ji37)).f0)) - ((rd_T72 l0 x33_2).f0)))) * (IntKind.u64.wrap ((rd_T72 l0 x33_2).f1)))))) l0 (l0.length : Int) ji37 a1_0 a1_1) else (money_Bracket.l0 k2 l0 x7_2 l0 (l0.length : Int) ji37 a1_0 a1_1)) else (none)) = some (r1, r2) := by first | (rw [hji37] at H; exact H) | (simp only [hji37] at H ⊢; exact H)
           (try rw [hji37] at c36b0)
           have hji37w : (IntKind.i64.wrap (x33_2 + 1)) = ji37 := (i64_w _).trans hji37
           by_cases c38 : 0 ≤ (ji37)
           ·rw [if_pos c38] at H
            have c38b0 : decide (0 ≤ (ji37)) = true := decide_eq_true c38
            clear c38
            obtain ⟨ji39, hji39⟩ : ∃ j_ : Int, (mn a1_1 ((rd_T72 l0 (ji37)).f0)) = j_ := ⟨_, rfl⟩
            replace H : (if (ji39) > ((rd_T72 l0 x33_2).f0) then (money_Bracket.l0 k2 l0 (IntKind.u64.wrap (x7_2 + (IntKind.u64.wrap ((IntKind.u64.wrap (wrap64 ((ji39) - ((rd_T72 l0 x33_2).f0)))) * (IntKind.u64.wrap ((rd_T72 l0 x33_2).f1)))))) l0 (l0.length : Int) ji37 a1_0 a1_1) else (money_Bracket.l0 k2 l0 x7_2 l0 (l0.length : Int) ji37 a1_0 a1_1)) = some (r1, r2) := by first | (rw [hji39] at H; exact H) | (simp only [hji39] at H ⊢; exact H)
            have hji39_ : (if ((rd_T72 l0 (ji37)).f0) < a1_1 then ((rd_T72 l0 (ji37)).f0) else a1_1) = ji39 := hji39
            by_cases c40 : (ji39) > ((rd_T72 l0 x33_2).f0)
            ·rw [if_pos c40] at H
             have c40b0 : decide (((rd_T72 l0 x33_2).f0) < (ji39)) = true := decide_eq_true c40
             clear c40
             have H' := Aside0.mk H
             clear H
             have p657 : 0 ≤ (x33_2 : Int) := odx
             have q657 : x33_2 < (l0.length : Int) := odx
             obtain ⟨ad657, e657, hx657_0, hx657_1⟩ := at_T72 HR0.out x33_2 p657 q657
             cases e657
             replace hx657_0 := (HB.out.cell (World.block_lt_of_cell? w _ hx657_0)).trans hx657_0
             replace hx657_1 := (HB.out.cell (World.block_lt_of_cell? w _ hx657_1)).trans hx657_1
             replace p657 := eq_true p657
             replace q657 := eq_true q657
             go_wp2_with (first | ((with_reducible refine gate_dst (N := 9) rfl ?_); refine bxe (N := 9) (cs := #[.int .i64 0, .int .i64 0]) (t := 72) ?_; intro gb658 hg w41 hbox hb; have BK658 := Aside0.mk (hbox); have GW658 : Aside0 (w.heap.size ≤ gb658) := gwx hg; have GE658 : Aside0 (w.heap.size ≤ gb658) := gwx hg; replace HB := Aside0.mk (below_step blx hb); have NB641_658 := nbl BK641 hg; have NB658_641 := nbg BK641 hg; replace BK641 := bkq BK641 hb; have NB642_658 := nbl BK642 hg; have NB658_642 := nbg BK642 hg; replace BK642 := bkq BK642 hb; have NB649_658 := nbl BK649 hg; have NB658_649 := nbg BK649 hg; replace BK649 := bkq BK649 hb; clear hb hbox hg; have hnb42 := NB658_641.out; have hnc42 := NB641_658.out; have hnb43 := NB658_642.out; have hnc43 := NB642_658.out; have hnb44 := NB658_649.out; have hnc44 := NB649_658.out; obtain ⟨hcz45_0, hcz45_1, hfz45_0, hfz45_1⟩ := c2_ BK658; have hnb46 := NB641_642.out; have hnc46 := NB642_641.out; have hnb47 := NB641_649.out; have hnc47 := NB649_641.out; obtain ⟨hcz48_0, hcz48_1, hfz48_0, hfz48_1⟩ := c2_ BK641; have p659 : 0 ≤ ((ji37) : Int) := odx; have q659 : (ji37) < (l0.length : Int) := odx; obtain ⟨ad659, e659, hx659_0, hx659_1⟩ := at_T72 HR0.out (ji37) p659 q659; obtain rfl : ad657 = ad659 := (by injection e659); have hn659_0 : ad657.block ≠ gb658 := Nat.ne_of_lt (Nat.lt_of_lt_of_le (by have := World.block_lt_of_cell? _ _ hx659_0; first | rwa [add_block] at this | exact this) GW658.out); have hn659_1 : ad657.block ≠ gb658 := Nat.ne_of_lt (Nat.lt_of_lt_of_le (by have := World.block_lt_of_cell? _ _ hx659_0; first | rwa [add_block] at this | exact this) GW658.out); replace hx659_0 := (HB.out.cell (World.block_lt_of_cell? w _ hx659_0)).trans hx659_0; replace hx659_1 := (HB.out.cell (World.block_lt_of_cell? w _ hx659_1)).trans hx659_1; replace hx659_0 := (cell_far (p := ⟨gb658, 0, none⟩) (by first | (rw [add_block]; exact hn659_0) | (show (Addr.add _ _).block ≠ _; rw [add_block]; exact hn659_0) | exact hn659_0) (.int .i64 ((rd_T72 l0 x33_2).f0))).trans hx659_0; replace hx659_1 := (cell_far (p := ⟨gb658, 0, none⟩) (by first | (rw [add_block]; exact hn659_0) | (show (Addr.add _ _).block ≠ _; rw [add_block]; exact hn659_0) | exact hn659_0) (.int .i64 ((rd_T72 l0 x33_2).f0))).trans hx659_1; replace hx659_0 := (cell_far (p := ⟨gb658, 1, none⟩) (by first | (rw [add_block]; exact hn659_1) | (show (Addr.add _ _).block ≠ _; rw [add_block]; exact hn659_1) | exact hn659_1) (.int .i64 ((rd_T72 l0 x33_2).f1))).trans hx659_0; replace hx659_1 := (cell_far (p := ⟨gb658, 1, none⟩) (by first | (rw [add_block]; exact hn659_1) | (show (Addr.add _ _).block ≠ _; rw [add_block]; exact hn659_1) | exact hn659_1) (.int .i64 ((rd_T72 l0 x33_2).f1))).trans hx659_1; clear hn659_0; clear hn659_1; replace p659 := eq_true p659; replace q659 := eq_true q659))
             go_roundg k2
             case measure => have := HJ4.out; have := HK2.out; omega
             case rel => exact ⟨(IntKind.u64.wrap (x7_2 + (IntKind.u64.wrap ((IntKind.u64.wrap (wrap64 ((ji39) - ((rd_T72 l0 x33_2).f0)))) * (IntKind.u64.wrap ((rd_T72 l0 x33_2).f1)))))), (ji37), (by first | rfl | (simp; done) | (simp only [← hji39] <;> (first | rfl | simp)) | (simp [*]; done)), (by first | rfl | (simp; done) | (simp only [← hji37] <;> (first | rfl | simp)) | (simp [*]; done)), H', ⟨by have := HJ4.out; have := HK2.out; omega⟩, ⟨bkx⟩, ⟨bkx⟩, ⟨bkx⟩, ⟨blx⟩⟩
            ·rw [if_neg c40] at H
             have c40b0 : decide (((rd_T72 l0 x33_2).f0) < (ji39)) = false := decide_eq_false c40
             clear c40
             have H' := Aside0.mk H
             clear H
             have p657 : 0 ≤ (x33_2 : Int) := odx
             have q657 : x33_2 < (l0.length : Int) := odx
             obtain ⟨ad657, e657, hx657_0, hx657_1⟩ := at_T72 HR0.out x33_2 p657 q657
             cases e657
             replace hx657_0 := (HB.out.cell (World.block_lt_of_cell? w _ hx657_0)).trans hx657_0
             replace hx657_1 := (HB.out.cell (World.block_lt_of_cell? w _ hx657_1)).trans hx657_1
             replace p657 := eq_true p657
             replace q657 := eq_true q657
             go_wp2_with (first | ((with_reducible refine gate_dst (N := 9) rfl ?_); refine bxe (N := 9) (cs := #[.int .i64 0, .int .i64 0]) (t := 72) ?_; intro gb658 hg w49 hbox hb; have BK658 := Aside0.mk (hbox); have GW658 : Aside0 (w.heap.size ≤ gb658) := gwx hg; have GE658 : Aside0 (w.heap.size ≤ gb658) := gwx hg; replace HB := Aside0.mk (below_step blx hb); have NB641_658 := nbl BK641 hg; have NB658_641 := nbg BK641 hg; replace BK641 := bkq BK641 hb; have NB642_658 := nbl BK642 hg; have NB658_642 := nbg BK642 hg; replace BK642 := bkq BK642 hb; have NB649_658 := nbl BK649 hg; have NB658_649 := nbg BK649 hg; replace BK649 := bkq BK649 hb; clear hb hbox hg; have hnb50 := NB658_641.out; have hnc50 := NB641_658.out; have hnb51 := NB658_642.out; have hnc51 := NB642_658.out; have hnb52 := NB658_649.out; have hnc52 := NB649_658.out; obtain ⟨hcz53_0, hcz53_1, hfz53_0, hfz53_1⟩ := c2_ BK658; have hnb54 := NB641_642.out; have hnc54 := NB642_641.out; have hnb55 := NB641_649.out; have hnc55 := NB649_641.out; obtain ⟨hcz56_0, hcz56_1, hfz56_0, hfz56_1⟩ := c2_ BK641; have p659 : 0 ≤ ((ji37) : Int) := odx; have q659 : (ji37) < (l0.length : Int) := odx; obtain ⟨ad659, e659, hx659_0, hx659_1⟩ := at_T72 HR0.out (ji37) p659 q659; obtain rfl : ad657 = ad659 := (by injection e659); have hn659_0 : ad657.block ≠ gb658 := Nat.ne_of_lt (Nat.lt_of_lt_of_le (by have := World.block_lt_of_cell? _ _ hx659_0; first | rwa [add_block] at this | exact this) GW658.out); have hn659_1 : ad657.block ≠ gb658 := Nat.ne_of_lt (Nat.lt_of_lt_of_le (by have := World.block_lt_of_cell? _ _ hx659_0; first | rwa [add_block] at this | exact this) GW658.out); replace hx659_0 := (HB.out.cell (World.block_lt_of_cell? w _ hx659_0)).trans hx659_0; replace hx659_1 := (HB.out.cell (World.block_lt_of_cell? w _ hx659_1)).trans hx659_1; replace hx659_0 := (cell_far (p := ⟨gb658, 0, none⟩) (by first | (rw [add_block]; exact hn659_0) | (show (Addr.add _ _).block ≠ _; rw [add_block]; exact hn659_0) | exact hn659_0) (.int .i64 ((rd_T72 l0 x33_2).f0))).trans hx659_0; replace hx659_1 := (cell_far (p := ⟨gb658, 0, none⟩) (by first | (rw [add_block]; exact hn659_0) | (show (Addr.add _ _).block ≠ _; rw [add_block]; exact hn659_0) | exact hn659_0) (.int .i64 ((rd_T72 l0 x33_2).f0))).trans hx659_1; replace hx659_0 := (cell_far (p := ⟨gb658, 1, none⟩) (by first | (rw [add_block]; exact hn659_1) | (show (Addr.add _ _).block ≠ _; rw [add_block]; exact hn659_1) | exact hn659_1) (.int .i64 ((rd_T72 l0 x33_2).f1))).trans hx659_0; replace hx659_1 := (cell_far (p := ⟨gb658, 1, none⟩) (by first | (rw [add_block]; exact hn659_1) | (show (Addr.add _ _).block ≠ _; rw [add_block]; exact hn659_1) | exact hn659_1) (.int .i64 ((rd_T72 l0 x33_2).f1))).trans hx659_1; clear hn659_0; clear hn659_1; replace p659 := eq_true p659; replace q659 := eq_true q659))
             go_roundg k2
             case measure => have := HJ4.out; have := HK2.out; omega
             case rel => exact ⟨(x7_2), (ji37), (by first | rfl | (simp; done) | (simp [*]; done)), (by first | rfl | (simp; done) | (simp only [← hji37] <;> (first | rfl | simp)) | (simp [*]; done)), H', ⟨by have := HJ4.out; have := HK2.out; omega⟩, ⟨bkx⟩, ⟨bkx⟩, ⟨bkx⟩, ⟨blx⟩⟩
           ·rw [if_neg c38] at H
            exact absurd H (by simp)
          ·rw [if_neg c36] at H
           have c36b0 : decide ((wrap64 (x33_2 + 1)) < (l0.length : Int)) = false := decide_eq_false c36
           clear c36
           by_cases c57 : a1_1 > ((rd_T72 l0 x33_2).f0)
           ·rw [if_pos c57] at H
            have c57b0 : decide (((rd_T72 l0 x33_2).f0) < a1_1) = true := decide_eq_true c57
            clear c57
            have H' := Aside0.mk H
            clear H
            have p657 : 0 ≤ (x33_2 : Int) := odx
            have q657 : x33_2 < (l0.length : Int) := odx
            obtain ⟨ad657, e657, hx657_0, hx657_1⟩ := at_T72 HR0.out x33_2 p657 q657
            cases e657
            replace hx657_0 := (HB.out.cell (World.block_lt_of_cell? w _ hx657_0)).trans hx657_0
            replace hx657_1 := (HB.out.cell (World.block_lt_of_cell? w _ hx657_1)).trans hx657_1
            replace p657 := eq_true p657
            replace q657 := eq_true q657
            go_wp2_with (first | ((with_reducible refine gate_dst (N := 9) rfl ?_); refine bxe (N := 9) (cs := #[.int .i64 0, .int .i64 0]) (t := 72) ?_; intro gb658 hg w58 hbox hb; have BK658 := Aside0.mk (hbox); have GW658 : Aside0 (w.heap.size ≤ gb658) := gwx hg; have GE658 : Aside0 (w.heap.size ≤ gb658) := gwx hg; replace HB := Aside0.mk (below_step blx hb); have NB641_658 := nbl BK641 hg; have NB658_641 := nbg BK641 hg; replace BK641 := bkq BK641 hb; have NB642_658 := nbl BK642 hg; have NB658_642 := nbg BK642 hg; replace BK642 := bkq BK642 hb; have NB649_658 := nbl BK649 hg; have NB658_649 := nbg BK649 hg; replace BK649 := bkq BK649 hb; clear hb hbox hg; have hnb59 := NB658_641.out; have hnc59 := NB641_658.out; have hnb60 := NB658_642.out; have hnc60 := NB642_658.out; have hnb61 := NB658_649.out; have hnc61 := NB649_658.out; obtain ⟨hcz62_0, hcz62_1, hfz62_0, hfz62_1⟩ := c2_ BK658; have hnb63 := NB641_642.out; have hnc63 := NB642_641.out; have hnb64 := NB641_649.out; have hnc64 := NB649_641.out; obtain ⟨hcz65_0, hcz65_1, hfz65_0, hfz65_1⟩ := c2_ BK641))
            go_roundg k2
            case measure => have := HJ4.out; have := HK2.out; omega
            case rel => exact ⟨(IntKind.u64.wrap (x7_2 + (IntKind.u64.wrap ((IntKind.u64.wrap (wrap64 (a1_1 - ((rd_T72 l0 x33_2).f0)))) * (IntKind.u64.wrap ((rd_T72 l0 x33_2).f1)))))), (wrap64 (x33_2 + 1)), (by first | rfl | (simp; done) | (simp [*]; done)), (by first | rfl | (simp; done) | (simp [*]; done)), H', ⟨by have := HJ4.out; have := HK2.out; omega⟩, ⟨bkx⟩, ⟨bkx⟩, ⟨bkx⟩, ⟨blx⟩⟩
           ·rw [if_neg c57] at H
            have c57b0 : decide (((rd_T72 l0 x33_2).f0) < a1_1) = false := decide_eq_false c57
            clear c57
            have H' := Aside0.mk H
            clear H
            have p657 : 0 ≤ (x33_2 : Int) := odx
            have q657 : x33_2 < (l0.length : Int) := odx
            obtain ⟨ad657, e657, hx657_0, hx657_1⟩ := at_T72 HR0.out x33_2 p657 q657
            cases e657
            replace hx657_0 := (HB.out.cell (World.block_lt_of_cell? w _ hx657_0)).trans hx657_0
            replace hx657_1 := (HB.out.cell (World.block_lt_of_cell? w _ hx657_1)).trans hx657_1
            replace p657 := eq_true p657
            replace q657 := eq_true q657
            go_wp2_with (first | ((with_reducible refine gate_dst (N := 9) rfl ?_); refine bxe (N := 9) (cs := #[.int .i64 0, .int .i64 0]) (t := 72) ?_; intro gb658 hg w66 hbox hb; have BK658 := Aside0.mk (hbox); have GW658 : Aside0 (w.heap.size ≤ gb658) := gwx hg; have GE658 : Aside0 (w.heap.size ≤ gb658) := gwx hg; replace HB := Aside0.mk (below_step blx hb); have NB641_658 := nbl BK641 hg; have NB658_641 := nbg BK641 hg; replace BK641 := bkq BK641 hb; have NB642_658 := nbl BK642 hg; have NB658_642 := nbg BK642 hg; replace BK642 := bkq BK642 hb; have NB649_658 := nbl BK649 hg; have NB658_649 := nbg BK649 hg; replace BK649 := bkq BK649 hb; clear hb hbox hg; have hnb67 := NB658_641.out; have hnc67 := NB641_658.out; have hnb68 := NB658_642.out; have hnc68 := NB642_658.out; have hnb69 := NB658_649.out; have hnc69 := NB649_658.out; obtain ⟨hcz70_0, hcz70_1, hfz70_0, hfz70_1⟩ := c2_ BK658; have hnb71 := NB641_642.out; have hnc71 := NB642_641.out; have hnb72 := NB641_649.out; have hnc72 := NB649_641.out; obtain ⟨hcz73_0, hcz73_1, hfz73_0, hfz73_1⟩ := c2_ BK641))
            go_roundg k2
            case measure => have := HJ4.out; have := HK2.out; omega
            case rel => exact ⟨(x7_2), (wrap64 (x33_2 + 1)), (by first | rfl | (simp; done) | (simp [*]; done)), (by first | rfl | (simp; done) | (simp [*]; done)), H', ⟨by have := HJ4.out; have := HK2.out; omega⟩, ⟨bkx⟩, ⟨bkx⟩, ⟨bkx⟩, ⟨blx⟩⟩
         ·rw [if_neg c35] at H
          exact absurd H (by simp)
        ·rw [if_neg c34] at H
         exact absurd H (by simp)
       ·rw [if_neg c33] at H
        have c33b0 : decide (x33_2 < (l0.length : Int)) = false := decide_eq_false c33
        clear c33
        replace H := Option.bind_eq_some_iff.mp H
        obtain ⟨⟨t653, t654⟩, A740, H⟩ := H
        replace H : ((money_cents.f t653).bind fun bt655 => (some (bt655.1, bt655.2))) = some (r1, r2) := H
        have A74 := Aside0.mk A740
        clear A740
        replace H := Option.bind_eq_some_iff.mp H
        obtain ⟨⟨t655, t656⟩, A750, H⟩ := H
        replace H : (some (t655, t656)) = some (r1, r2) := H
        have A75 := Aside0.mk A750
        clear A750
        simp only [Option.some.injEq, Prod.mk.injEq] at H
        obtain ⟨rfl, rfl⟩ := H
        go_wp2_with (first | ((with_reducible refine gate_callee (f := 68) rfl ?_); refine goesL_ (some 74) rfl rfl Tryd.func68 (by kernel_rfl) rfl #[.int .u64 (IntKind.u64.wrap (Int.tdiv x7_2 1000000)), .int .u64 (Int.tmod x7_2 1000000), .int .u64 1000000, .bool false, .int .i64 4] rfl agx ?_; (with_reducible refine (money_rounded.calls k2 (IntKind.u64.wrap (Int.tdiv x7_2 1000000)) (Int.tmod x7_2 1000000) 1000000 false 4 t653 t654 _ A74.out).mono ?_); rintro e w' ⟨rfl, ⟨nd, rfl⟩⟩; refine ⟨_, rfl, ?_⟩; (try (rw [drewN_self wr]; generalize hq_ : World.drewN wr _ = wr; have n0_ : Aside0 (wr.heap[gb641]? = some (.cells #[.int .i64 a1_0, .int .i64 a1_1] 23 (0, 0))) := ⟨by rw [← hq_]; exact bkx⟩; have n1_ : Aside0 (wr.heap[gb642]? = some (.cells #[.int .i64 0, .int .i64 0] 23 (0, 0))) := ⟨by rw [← hq_]; exact bkx⟩; have n2_ : Aside0 (wr.heap[gb649]? = some (.cells #[.int .i64 t646, .int .i64 t647] 23 (0, 0))) := ⟨by rw [← hq_]; exact bkx⟩; have n3_ : Aside0 (Below w.heap.size w wr) := ⟨by rw [← hq_]; exact blx⟩; clear BK641 BK642 BK649 HB hq_; have BK641 := n0_; have BK642 := n1_; have BK649 := n2_; have HB := n3_; clear n0_ n1_ n2_ n3_))) | ((with_reducible refine gate_callee (f := 69) rfl ?_); refine goesL_ (some 78) rfl rfl Tryd.func69 (by kernel_rfl) rfl #[.int .i64 t653] rfl agx ?_; (with_reducible refine (money_cents.calls t653 t655 t656 _ A75.out (by first | exact HG0.out | exact Kd.C_below HG0.out blx)).mono ?_); rintro e w76 ⟨rfl, hb⟩; refine ⟨_, rfl, ?_⟩; replace BK641 := bkq BK641 hb; replace BK642 := bkq BK642 hb; replace BK649 := bkq BK649 hb; replace HB := Aside0.mk (below_step blx hb); (try clear hb); (try clear hb2); (try clear hk); (try clear hi); have hnb77 := NB642_641.out; have hnc77 := NB641_642.out; have hnb78 := NB642_649.out; have hnc78 := NB649_642.out; obtain ⟨hcz79_0, hcz79_1, hfz79_0, hfz79_1⟩ := c2_ BK642))
        refine bodyPost_ret (results_cell_row rfl _ _ gb642 23 #[.int .i64 t655, .int .i64 t656] (0, 0) _ rfl (by (with_reducible repeat (first | refine blk_drewN ?_ _ | refine blk_drew ?_ | refine blk_alloc ?_ _)); refine blk_put (cs := #[.int .i64 t655, .int .i64 0]) ?_ 1 _ rfl; (with_reducible repeat (first | refine blk_drewN ?_ _ | refine blk_drew ?_ | refine blk_alloc ?_ _)); refine blk_put (cs := #[.int .i64 0, .int .i64 0]) ?_ 0 _ rfl; (with_reducible repeat (first | refine blk_drewN ?_ _ | refine blk_drew ?_ | refine blk_alloc ?_ _)); exact BK642.out) Tryd.underlying23 rfl (by kernel_rfl)) rfl ?_
        exact ⟨by first | rfl | (simp [errW_none, errW_some] <;> rfl) | (simp [*, errW_none, errW_some] <;> rfl), blx⟩
 ·replace c4 := Bool.eq_false_iff.mpr c4
  subst c4
  have H1 : (some (t646, t647)) = some (r1, r2) := by rw [if_neg (show ¬ (false = true) by decide)] at H; exact H
  clear H
  have H := H1
  clear H1
  simp only [Option.some.injEq, Prod.mk.injEq] at H
  obtain ⟨rfl, rfl⟩ := H
  go_enter Tryd.func45, Tryd.ntmps45
  go_wp2_with (first | ((with_reducible refine gate_dst (N := 3) rfl ?_); refine bxe (N := 3) (cs := #[.int .i64 a1_0, .int .i64 a1_1]) (t := 23) ?_; intro gb641 hg w80 hbox hb; have BK641 := Aside0.mk (hbox); have GW641 : Aside0 (w.heap.size ≤ gb641) := gwx hg; have GE641 : Aside0 (w.heap.size ≤ gb641) := gwx hg; replace HB := Aside0.mk (below_step blx hb); clear hb hbox hg) | ((with_reducible refine gate_dst (N := 4) rfl ?_); refine bxe (N := 4) (cs := #[.int .i64 0, .int .i64 0]) (t := 23) ?_; intro gb642 hg w81 hbox hb; have BK642 := Aside0.mk (hbox); have GW642 : Aside0 (w.heap.size ≤ gb642) := gwx hg; have GE642 : Aside0 (w.heap.size ≤ gb642) := gwx hg; replace HB := Aside0.mk (below_step blx hb); have NB641_642 := nbl BK641 hg; have NB642_641 := nbg BK641 hg; replace BK641 := bkq BK641 hb; clear hb hbox hg; have hnb82 := NB641_642.out; have hnc82 := NB642_641.out; obtain ⟨hcz83_0, hcz83_1, hfz83_0, hfz83_1⟩ := c2_ BK641) | ((with_reducible refine gate_dst (N := 15) rfl ?_); refine Kd.R_lit k23 _ 23 ?hg (N := 15) ?hd (xs := ([(⟨a1_0, a1_1⟩ : S23)] : List (S23))) (inner := [.int .i64 a1_0, .int .i64 a1_1]) (ok := fun _ => True) (okp := fun _ => True) ?hr ?hp (fun _ hk => hk) trivial (Below.refl _ _) (Nat.le_refl _) (by simp) ?_; (case hd => rfl); (case hg => rfl); (case hr => first | (go_simp; done) | (go_simp; rfl)); (case hp => exact (Reps.c2 (show Kd.M k23 _ _ _ (⟨a1_0, a1_1⟩ : S23) [.int .i64 a1_0, .int .i64 a1_1] from (k23_mkM _ _ _ (⟨a1_0, a1_1⟩ : S23) )) (Reps.none _ _))); intro v644 w84 ho85 hb hg_ hnew_; clear hg_ hnew_; (first | rw [← Ny643.out] at ho85 | (simp only [Int.reduceToNat] at ho85; rw [← Ny643.out] at ho85)); have HO645 := Aside0.mk (Kd.R_lower (Kd.R_newB (Kd.R_newB ho85 (g := gb641) (o := .cells #[.int .i64 a1_0, .int .i64 a1_1] 23 (0, 0)) bkx) (g := gb642) (o := .cells #[.int .i64 0, .int .i64 0] 23 (0, 0)) bkx) (below_size blx)); replace BK641 := bkq BK641 hb; replace BK642 := bkq BK642 hb; replace HB := Aside0.mk (below_step blx hb); clear hb ho85; obtain ⟨Ao86, co86, eo86⟩ := Kd.R_slice HO645.out; subst eo86) | ((with_reducible refine gate_callee (f := 65) rfl ?_); refine goesL_ (some 16) rfl rfl Tryd.func65 (by kernel_rfl) rfl #[.slice Ao86 y643.length co86] rfl agx ?_; (with_reducible refine (money_seen.calls k _ _ y643 t646 t647 false _ ?side1 ?side2 A3.out (by first | exact HG0.out | exact Kd.C_below HG0.out blx)).mono ?_); (case side1 => exact crx HO645); (case side2 => exact (Kd.R_reads' HO645.out).2.1); rintro e w87 ⟨rfl, hb⟩; refine ⟨_, rfl, ?_⟩; replace HO645 := hoq HO645 hb; replace BK641 := bkq BK641 hb; replace BK642 := bkq BK642 hb; replace HB := Aside0.mk (below_step blx hb); (try clear hb); (try clear hb2); (try clear hk); (try clear hi)) | ((with_reducible refine gate_dst (N := 5) rfl ?_); refine bxe (N := 5) (cs := #[.int .i64 0, .int .i64 0]) (t := 23) ?_; intro gb649 hg w88 hbox hb; replace HO645 := Aside0.mk (Kd.R_below (Kd.R_elderB (by (with_reducible repeat (first | apply Kd.R_alloc | apply Kd.R_drewN | apply Kd.R_drew)); exact HO645.out) gb649 (Nat.le_of_eq hg.symm)) hb); have BK649 := Aside0.mk (hbox); have GW649 : Aside0 (w.heap.size ≤ gb649) := gwx hg; have GE649 : Aside0 (w.heap.size ≤ gb649) := gwx hg; replace HB := Aside0.mk (below_step blx hb); have NB641_649 := nbl BK641 hg; have NB649_641 := nbg BK641 hg; replace BK641 := bkq BK641 hb; have NB642_649 := nbl BK642 hg; have NB649_642 := nbg BK642 hg; replace BK642 := bkq BK642 hb; clear hb hbox hg; have hnb89 := NB649_641.out; have hnc89 := NB641_649.out; have hnb90 := NB649_642.out; have hnc90 := NB642_649.out; obtain ⟨hcz91_0, hcz91_1, hfz91_0, hfz91_1⟩ := c2_ BK649; obtain ⟨hcz92_0, hcz92_1, hfz92_0, hfz92_1⟩ := c2_ BK642))
  refine bodyPost_ret (results_cell_row rfl _ _ gb642 23 #[.int .i64 t646, .int .i64 t647] (0, 0) _ rfl (by (with_reducible repeat (first | refine blk_drewN ?_ _ | refine blk_drew ?_ | refine blk_alloc ?_ _)); refine blk_put (cs := #[.int .i64 t646, .int .i64 0]) ?_ 1 _ rfl; (with_reducible repeat (first | refine blk_drewN ?_ _ | refine blk_drew ?_ | refine blk_alloc ?_ _)); refine blk_put (cs := #[.int .i64 0, .int .i64 0]) ?_ 0 _ rfl; (with_reducible repeat (first | refine blk_drewN ?_ _ | refine blk_drew ?_ | refine blk_alloc ?_ _)); refine blk_far ?_ NB642_649.out _; (with_reducible repeat (first | refine blk_drewN ?_ _ | refine blk_drew ?_ | refine blk_alloc ?_ _)); refine blk_far ?_ NB642_649.out _; (with_reducible repeat (first | refine blk_drewN ?_ _ | refine blk_drew ?_ | refine blk_alloc ?_ _)); exact BK642.out) Tryd.underlying23 rfl (by kernel_rfl)) rfl ?_
  exact ⟨by first | rfl | (simp [errW_none, errW_some] <;> rfl) | (simp [*, errW_none, errW_some] <;> rfl), blx⟩
end Go.Proofs.YtnjhjaifmgjljaaDoor.PM
end

section
namespace Go.Proofs.YtnjhjaifmgjljaaDoor.PM
open Go.RowKit Go.Proofs.YtnjhjaifmgjljaaDoorW.PrintWords Go.Proofs.YtnjhjaifmgjljaaDoorW.PrintLast Go.Proofs.YtnjhjaifmgjljaaDoorW.PrintMore
attribute [local go_sem] max2_int min2_int max_two min_two max_three min_three max_four min_four
set_option linter.unusedVariables false
set_option linter.unusedSimpArgs false
def money_Split.f (k : Nat) (a0_0 : Int) (a0_1 : Int) (a1_0 : Int) (a1_1 : Int) (a2 : Int) : Option (Int × Int) := (money_of.f k a0_0 a0_1 1 a1_0 a1_1 2).bind fun bt667 => (if bt667.2.2 = true then ((money_modes.f a2).bind fun t671 => (if t671 = true then (if a1_1 = 0 then ((money_fault.f 2).bind fun bt674 => (some (bt674.1, bt674.2))) else ((money_amount.f a0_1).bind fun bt676 => ((money_amount.f a1_1).bind fun bt678 => (if bt678.1 = 0 then (none) else ((money_rounded.f k (IntKind.u64.wrap (Int.tdiv bt676.1 bt678.1)) (Int.tmod bt676.1 bt678.1) bt678.1 (bt676.2 != bt678.2) a2).bind fun bt680 => ((money_cents.f bt680.1).bind fun bt682 => (some (bt682.1, bt682.2)))))))) else ((money_fault.f 5).bind fun bt672 => (some (bt672.1, bt672.2))))) else (some (bt667.1, bt667.2.1)))
theorem money_Split.mono : ∀ a0 a1 a2 a3 a4 k, LeO (money_Split.f k a0 a1 a2 a3 a4) (money_Split.f (k + 1) a0 a1 a2 a3 a4) := by
 intro a0 a1 a2 a3 a4 k
 unfold money_Split.f
 repeat' first
   | (with_reducible exact money_of.mono _ _ _ _ _ _ _)
   | (with_reducible exact money_rounded.mono _ _ _ _ _ _)
   | (with_reducible exact LeO.refl _)
   | (with_reducible exact LeO.none _)
   | (with_reducible refine LeO.ite ?_ ?_)
   | (with_reducible refine LeO.bind ?_ (fun _ => ?_))
   | exact money_of.mono _ _ _ _ _ _ _
   | exact money_rounded.mono _ _ _ _ _ _
   | exact LeO.none _
   | refine LeO.ite ?_ ?_
   | refine LeO.bind ?_ (fun _ => ?_)
set_option maxHeartbeats 8000000 in
set_option maxRecDepth 100000 in
theorem money_Split.calls (k : Nat) (a0_0 : Int) (a0_1 : Int) (a1_0 : Int) (a1_1 : Int) (a2 : Int) (r1 : Int) (r2 : Int) (w : World) (h : money_Split.f k a0_0 a0_1 a1_0 a1_1 a2 = some (r1, r2)) (hg0 : Kd.C k87 w (some ⟨0, 0, none⟩) gtab0.length gtab0) :
  Calls Tryd.prog 47 #[.agg #[.int .i64 a0_0, .int .i64 a0_1], .agg #[.int .i64 a1_0, .int .i64 a1_1], .int .i64 a2] w fun e w' => e = .returned (.agg #[.int .i64 r1, .int .i64 r2]) ∧ Below w.heap.size w w' := by
 have HG0 := Aside0.mk hg0
 clear hg0
 have hu23 := Tryd.underlying23
 have HB := Aside0.mk (Below.refl w.heap.size w)
 have H : ((money_of.f k a0_0 a0_1 1 a1_0 a1_1 2).bind fun bt667 => (if bt667.2.2 = true then ((money_modes.f a2).bind fun t671 => (if t671 = true then (if a1_1 = 0 then ((money_fault.f 2).bind fun bt674 => (some (bt674.1, bt674.2))) else ((money_amount.f a0_1).bind fun bt676 => ((money_amount.f a1_1).bind fun bt678 => (if bt678.1 = 0 then (none) else ((money_rounded.f k (IntKind.u64.wrap (Int.tdiv bt676.1 bt678.1)) (Int.tmod bt676.1 bt678.1) bt678.1 (bt676.2 != bt678.2) a2).bind fun bt680 => ((money_cents.f bt680.1).bind fun bt682 => (some (bt682.1, bt682.2)))))))) else ((money_fault.f 5).bind fun bt672 => (some (bt672.1, bt672.2))))) else (some (bt667.1, bt667.2.1)))) = some (r1, r2) := h
 clear h
 replace H := Option.bind_eq_some_iff.mp H
 obtain ⟨⟨t667, t668, t669⟩, A40, H⟩ := H
 replace H : (if t669 = true then ((money_modes.f a2).bind fun t671 => (if t671 = true then (if a1_1 = 0 then ((money_fault.f 2).bind fun bt674 => (some (bt674.1, bt674.2))) else ((money_amount.f a0_1).bind fun bt676 => ((money_amount.f a1_1).bind fun bt678 => (if bt678.1 = 0 then (none) else ((money_rounded.f k (IntKind.u64.wrap (Int.tdiv bt676.1 bt678.1)) (Int.tmod bt676.1 bt678.1) bt678.1 (bt676.2 != bt678.2) a2).bind fun bt680 => ((money_cents.f bt680.1).bind fun bt682 => (some (bt682.1, bt682.2)))))))) else ((money_fault.f 5).bind fun bt672 => (some (bt672.1, bt672.2))))) else (some (t667, t668))) = some (r1, r2) := H
 have A4 := Aside0.mk A40
 clear A40
 by_cases c5 : t669 = true
 ·subst c5
  have H1 : ((money_modes.f a2).bind fun t671 => (if t671 = true then (if a1_1 = 0 then ((money_fault.f 2).bind fun bt674 => (some (bt674.1, bt674.2))) else ((money_amount.f a0_1).bind fun bt676 => ((money_amount.f a1_1).bind fun bt678 => (if bt678.1 = 0 then (none) else ((money_rounded.f k (IntKind.u64.wrap (Int.tdiv bt676.1 bt678.1)) (Int.tmod bt676.1 bt678.1) bt678.1 (bt676.2 != bt678.2) a2).bind fun bt680 => ((money_cents.f bt680.1).bind fun bt682 => (some (bt682.1, bt682.2)))))))) else ((money_fault.f 5).bind fun bt672 => (some (bt672.1, bt672.2))))) = some (r1, r2) := by rw [if_pos rfl] at H; exact H
  clear H
  have H := H1
  clear H1
  replace H := Option.bind_eq_some_iff.mp H
  obtain ⟨t671, A60, H⟩ := H
  replace H : (if t671 = true then (if a1_1 = 0 then ((money_fault.f 2).bind fun bt674 => (some (bt674.1, bt674.2))) else ((money_amount.f a0_1).bind fun bt676 => ((money_amount.f a1_1).bind fun bt678 => (if bt678.1 = 0 then (none) else ((money_rounded.f k (IntKind.u64.wrap (Int.tdiv bt676.1 bt678.1)) (Int.tmod bt676.1 bt678.1) bt678.1 (bt676.2 != bt678.2) a2).bind fun bt680 => ((money_cents.f bt680.1).bind fun bt682 => (some (bt682.1, bt682.2)))))))) else ((money_fault.f 5).bind fun bt672 => (some (bt672.1, bt672.2)))) = some (r1, r2) := H
  have A6 := Aside0.mk A60
  clear A60
  by_cases c7 : t671 = true
  ·subst c7
   have H1 : (if a1_1 = 0 then ((money_fault.f 2).bind fun bt674 => (some (bt674.1, bt674.2))) else ((money_amount.f a0_1).bind fun bt676 => ((money_amount.f a1_1).bind fun bt678 => (if bt678.1 = 0 then (none) else ((money_rounded.f k (IntKind.u64.wrap (Int.tdiv bt676.1 bt678.1)) (Int.tmod bt676.1 bt678.1) bt678.1 (bt676.2 != bt678.2) a2).bind fun bt680 => ((money_cents.f bt680.1).bind fun bt682 => (some (bt682.1, bt682.2)))))))) = some (r1, r2) := by rw [if_pos rfl] at H; exact H
   clear H
   have H := H1
   clear H1
   by_cases c8 : a1_1 = 0
   ·rw [if_pos c8] at H
    have c8b0 : (a1_1 == 0) = true := beq_iff_eq.mpr c8
    have c8b1 : (a1_1 != 0) = false := bne_eq_false_iff_eq.mpr c8
    clear c8
    replace H := Option.bind_eq_some_iff.mp H
    obtain ⟨⟨t674, t675⟩, A90, H⟩ := H
    replace H : (some (t674, t675)) = some (r1, r2) := H
    have A9 := Aside0.mk A90
    clear A90
    simp only [Option.some.injEq, Prod.mk.injEq] at H
    obtain ⟨rfl, rfl⟩ := H
    go_enter Tryd.func47, Tryd.ntmps47
    go_wp2_with (first | ((with_reducible refine gate_dst (N := 3) rfl ?_); refine bxe (N := 3) (cs := #[.int .i64 a0_0, .int .i64 a0_1]) (t := 23) ?_; intro gb664 hg w10 hbox hb; have BK664 := Aside0.mk (hbox); have GW664 : Aside0 (w.heap.size ≤ gb664) := gwx hg; have GE664 : Aside0 (w.heap.size ≤ gb664) := gwx hg; replace HB := Aside0.mk (below_step blx hb); clear hb hbox hg) | ((with_reducible refine gate_dst (N := 4) rfl ?_); refine bxe (N := 4) (cs := #[.int .i64 a1_0, .int .i64 a1_1]) (t := 23) ?_; intro gb665 hg w11 hbox hb; have BK665 := Aside0.mk (hbox); have GW665 : Aside0 (w.heap.size ≤ gb665) := gwx hg; have GE665 : Aside0 (w.heap.size ≤ gb665) := gwx hg; replace HB := Aside0.mk (below_step blx hb); have NB664_665 := nbl BK664 hg; have NB665_664 := nbg BK664 hg; replace BK664 := bkq BK664 hb; clear hb hbox hg) | ((with_reducible refine gate_dst (N := 6) rfl ?_); refine bxe (N := 6) (cs := #[.int .i64 0, .int .i64 0]) (t := 23) ?_; intro gb666 hg w12 hbox hb; have BK666 := Aside0.mk (hbox); have GW666 : Aside0 (w.heap.size ≤ gb666) := gwx hg; have GE666 : Aside0 (w.heap.size ≤ gb666) := gwx hg; replace HB := Aside0.mk (below_step blx hb); have NB664_666 := nbl BK664 hg; have NB666_664 := nbg BK664 hg; replace BK664 := bkq BK664 hb; have NB665_666 := nbl BK665 hg; have NB666_665 := nbg BK665 hg; replace BK665 := bkq BK665 hb; clear hb hbox hg; have hnb13 := NB664_665.out; have hnc13 := NB665_664.out; have hnb14 := NB664_666.out; have hnc14 := NB666_664.out; obtain ⟨hcz15_0, hcz15_1, hfz15_0, hfz15_1⟩ := c2_ BK664; have hnb16 := NB665_666.out; have hnc16 := NB666_665.out; obtain ⟨hcz17_0, hcz17_1, hfz17_0, hfz17_1⟩ := c2_ BK665) | (go_at_call 74; (with_reducible refine (money_of.calls k a0_0 a0_1 1 a1_0 a1_1 2 t667 t668 true _ A4.out (by first | exact HG0.out | exact Kd.C_below HG0.out blx)).mono ?_); rintro e w18 ⟨rfl, hb⟩; replace BK664 := bkq BK664 hb; replace BK665 := bkq BK665 hb; replace BK666 := bkq BK666 hb; replace HB := Aside0.mk (below_step blx hb); (try clear hb); (try clear hb2); (try clear hk); (try clear hi)) | ((with_reducible refine gate_dst (N := 7) rfl ?_); refine bxe (N := 7) (cs := #[.int .i64 0, .int .i64 0]) (t := 23) ?_; intro gb670 hg w19 hbox hb; have BK670 := Aside0.mk (hbox); have GW670 : Aside0 (w.heap.size ≤ gb670) := gwx hg; have GE670 : Aside0 (w.heap.size ≤ gb670) := gwx hg; replace HB := Aside0.mk (below_step blx hb); have NB664_670 := nbl BK664 hg; have NB670_664 := nbg BK664 hg; replace BK664 := bkq BK664 hb; have NB665_670 := nbl BK665 hg; have NB670_665 := nbg BK665 hg; replace BK665 := bkq BK665 hb; have NB666_670 := nbl BK666 hg; have NB670_666 := nbg BK666 hg; replace BK666 := bkq BK666 hb; clear hb hbox hg; have hnb20 := NB670_664.out; have hnc20 := NB664_670.out; have hnb21 := NB670_665.out; have hnc21 := NB665_670.out; have hnb22 := NB670_666.out; have hnc22 := NB666_670.out; obtain ⟨hcz23_0, hcz23_1, hfz23_0, hfz23_1⟩ := c2_ BK670) | (go_at_call 66; (with_reducible refine (money_modes.calls a2 true _ A6.out).mono ?_); rintro e w' ⟨rfl, ⟨nd, rfl⟩⟩; (try first | exact ⟨rfl, _, World.drewN_drewN _ _ _⟩ | exact ⟨rfl, _, Eq.trans (World.drewN_drewN _ _ _) (congrArg (World.drewN _) (Nat.add_assoc _ _ _))⟩); obtain ⟨hcz24_0, hcz24_1, hfz24_0, hfz24_1⟩ := c2_ BK665) | (go_at_call 59; (with_reducible refine (money_fault.calls 2 t674 t675 _ A9.out).mono ?_); rintro e w25 ⟨rfl, hb⟩; replace BK664 := bkq BK664 hb; replace BK665 := bkq BK665 hb; replace BK666 := bkq BK666 hb; replace BK670 := Aside0.mk (blk_below (g := gb670) (o := .cells #[.int .i64 t667, .int .i64 t668] 23 (0, 0)) (by (with_reducible repeat (first | refine blk_drewN ?_ _ | refine blk_drew ?_ | refine blk_alloc ?_ _)); refine blk_put (cs := #[.int .i64 t667, .int .i64 0]) ?_ 1 _ rfl; (with_reducible repeat (first | refine blk_drewN ?_ _ | refine blk_drew ?_ | refine blk_alloc ?_ _)); refine blk_put (cs := #[.int .i64 0, .int .i64 0]) ?_ 0 _ rfl; (with_reducible repeat (first | refine blk_drewN ?_ _ | refine blk_drew ?_ | refine blk_alloc ?_ _)); exact BK670.out) hb); replace HB := Aside0.mk (below_step blx hb); (try clear hb); (try clear hb2); (try clear hk); (try clear hi); obtain ⟨hcz26_0, hcz26_1, hfz26_0, hfz26_1⟩ := c2_ BK666))
    repeat (go_quiet (first | ((with_reducible refine gate_dst (N := 3) rfl ?_); refine bxe (N := 3) (cs := #[.int .i64 a0_0, .int .i64 a0_1]) (t := 23) ?_; intro gb664 hg w10 hbox hb; have BK664 := Aside0.mk (hbox); have GW664 : Aside0 (w.heap.size ≤ gb664) := gwx hg; have GE664 : Aside0 (w.heap.size ≤ gb664) := gwx hg; replace HB := Aside0.mk (below_step blx hb); clear hb hbox hg) | ((with_reducible refine gate_dst (N := 4) rfl ?_); refine bxe (N := 4) (cs := #[.int .i64 a1_0, .int .i64 a1_1]) (t := 23) ?_; intro gb665 hg w11 hbox hb; have BK665 := Aside0.mk (hbox); have GW665 : Aside0 (w.heap.size ≤ gb665) := gwx hg; have GE665 : Aside0 (w.heap.size ≤ gb665) := gwx hg; replace HB := Aside0.mk (below_step blx hb); have NB664_665 := nbl BK664 hg; have NB665_664 := nbg BK664 hg; replace BK664 := bkq BK664 hb; clear hb hbox hg) | ((with_reducible refine gate_dst (N := 6) rfl ?_); refine bxe (N := 6) (cs := #[.int .i64 0, .int .i64 0]) (t := 23) ?_; intro gb666 hg w12 hbox hb; have BK666 := Aside0.mk (hbox); have GW666 : Aside0 (w.heap.size ≤ gb666) := gwx hg; have GE666 : Aside0 (w.heap.size ≤ gb666) := gwx hg; replace HB := Aside0.mk (below_step blx hb); have NB664_666 := nbl BK664 hg; have NB666_664 := nbg BK664 hg; replace BK664 := bkq BK664 hb; have NB665_666 := nbl BK665 hg; have NB666_665 := nbg BK665 hg; replace BK665 := bkq BK665 hb; clear hb hbox hg; have hnb13 := NB664_665.out; have hnc13 := NB665_664.out; have hnb14 := NB664_666.out; have hnc14 := NB666_664.out; obtain ⟨hcz15_0, hcz15_1, hfz15_0, hfz15_1⟩ := c2_ BK664; have hnb16 := NB665_666.out; have hnc16 := NB666_665.out; obtain ⟨hcz17_0, hcz17_1, hfz17_0, hfz17_1⟩ := c2_ BK665) | (go_at_call 74; (with_reducible refine (money_of.calls k a0_0 a0_1 1 a1_0 a1_1 2 t667 t668 true _ A4.out (by first | exact HG0.out | exact Kd.C_below HG0.out blx)).mono ?_); rintro e w18 ⟨rfl, hb⟩; replace BK664 := bkq BK664 hb; replace BK665 := bkq BK665 hb; replace BK666 := bkq BK666 hb; replace HB := Aside0.mk (below_step blx hb); (try clear hb); (try clear hb2); (try clear hk); (try clear hi)) | ((with_reducible refine gate_dst (N := 7) rfl ?_); refine bxe (N := 7) (cs := #[.int .i64 0, .int .i64 0]) (t := 23) ?_; intro gb670 hg w19 hbox hb; have BK670 := Aside0.mk (hbox); have GW670 : Aside0 (w.heap.size ≤ gb670) := gwx hg; have GE670 : Aside0 (w.heap.size ≤ gb670) := gwx hg; replace HB := Aside0.mk (below_step blx hb); have NB664_670 := nbl BK664 hg; have NB670_664 := nbg BK664 hg; replace BK664 := bkq BK664 hb; have NB665_670 := nbl BK665 hg; have NB670_665 := nbg BK665 hg; replace BK665 := bkq BK665 hb; have NB666_670 := nbl BK666 hg; have NB670_666 := nbg BK666 hg; replace BK666 := bkq BK666 hb; clear hb hbox hg; have hnb20 := NB670_664.out; have hnc20 := NB664_670.out; have hnb21 := NB670_665.out; have hnc21 := NB665_670.out; have hnb22 := NB670_666.out; have hnc22 := NB666_670.out; obtain ⟨hcz23_0, hcz23_1, hfz23_0, hfz23_1⟩ := c2_ BK670) | (go_at_call 66; (with_reducible refine (money_modes.calls a2 true _ A6.out).mono ?_); rintro e w' ⟨rfl, ⟨nd, rfl⟩⟩; (try first | exact ⟨rfl, _, World.drewN_drewN _ _ _⟩ | exact ⟨rfl, _, Eq.trans (World.drewN_drewN _ _ _) (congrArg (World.drewN _) (Nat.add_assoc _ _ _))⟩); obtain ⟨hcz24_0, hcz24_1, hfz24_0, hfz24_1⟩ := c2_ BK665) | (go_at_call 59; (with_reducible refine (money_fault.calls 2 t674 t675 _ A9.out).mono ?_); rintro e w25 ⟨rfl, hb⟩; replace BK664 := bkq BK664 hb; replace BK665 := bkq BK665 hb; replace BK666 := bkq BK666 hb; replace BK670 := Aside0.mk (blk_below (g := gb670) (o := .cells #[.int .i64 t667, .int .i64 t668] 23 (0, 0)) (by (with_reducible repeat (first | refine blk_drewN ?_ _ | refine blk_drew ?_ | refine blk_alloc ?_ _)); refine blk_put (cs := #[.int .i64 t667, .int .i64 0]) ?_ 1 _ rfl; (with_reducible repeat (first | refine blk_drewN ?_ _ | refine blk_drew ?_ | refine blk_alloc ?_ _)); refine blk_put (cs := #[.int .i64 0, .int .i64 0]) ?_ 0 _ rfl; (with_reducible repeat (first | refine blk_drewN ?_ _ | refine blk_drew ?_ | refine blk_alloc ?_ _)); exact BK670.out) hb); replace HB := Aside0.mk (below_step blx hb); (try clear hb); (try clear hb2); (try clear hk); (try clear hi); obtain ⟨hcz26_0, hcz26_1, hfz26_0, hfz26_1⟩ := c2_ BK666)); try go_wp2_with (first | ((with_reducible refine gate_dst (N := 3) rfl ?_); refine bxe (N := 3) (cs := #[.int .i64 a0_0, .int .i64 a0_1]) (t := 23) ?_; intro gb664 hg w10 hbox hb; have BK664 := Aside0.mk (hbox); have GW664 : Aside0 (w.heap.size ≤ gb664) := gwx hg; have GE664 : Aside0 (w.heap.size ≤ gb664) := gwx hg; replace HB := Aside0.mk (below_step blx hb); clear hb hbox hg) | ((with_reducible refine gate_dst (N := 4) rfl ?_); refine bxe (N := 4) (cs := #[.int .i64 a1_0, .int .i64 a1_1]) (t := 23) ?_; intro gb665 hg w11 hbox hb; have BK665 := Aside0.mk (hbox); have GW665 : Aside0 (w.heap.size ≤ gb665) := gwx hg; have GE665 : Aside0 (w.heap.size ≤ gb665) := gwx hg; replace HB := Aside0.mk (below_step blx hb); have NB664_665 := nbl BK664 hg; have NB665_664 := nbg BK664 hg; replace BK664 := bkq BK664 hb; clear hb hbox hg) | ((with_reducible refine gate_dst (N := 6) rfl ?_); refine bxe (N := 6) (cs := #[.int .i64 0, .int .i64 0]) (t := 23) ?_; intro gb666 hg w12 hbox hb; have BK666 := Aside0.mk (hbox); have GW666 : Aside0 (w.heap.size ≤ gb666) := gwx hg; have GE666 : Aside0 (w.heap.size ≤ gb666) := gwx hg; replace HB := Aside0.mk (below_step blx hb); have NB664_666 := nbl BK664 hg; have NB666_664 := nbg BK664 hg; replace BK664 := bkq BK664 hb; have NB665_666 := nbl BK665 hg; have NB666_665 := nbg BK665 hg; replace BK665 := bkq BK665 hb; clear hb hbox hg; have hnb13 := NB664_665.out; have hnc13 := NB665_664.out; have hnb14 := NB664_666.out; have hnc14 := NB666_664.out; obtain ⟨hcz15_0, hcz15_1, hfz15_0, hfz15_1⟩ := c2_ BK664; have hnb16 := NB665_666.out; have hnc16 := NB666_665.out; obtain ⟨hcz17_0, hcz17_1, hfz17_0, hfz17_1⟩ := c2_ BK665) | (go_at_call 74; (with_reducible refine (money_of.calls k a0_0 a0_1 1 a1_0 a1_1 2 t667 t668 true _ A4.out (by first | exact HG0.out | exact Kd.C_below HG0.out blx)).mono ?_); rintro e w18 ⟨rfl, hb⟩; replace BK664 := bkq BK664 hb; replace BK665 := bkq BK665 hb; replace BK666 := bkq BK666 hb; replace HB := Aside0.mk (below_step blx hb); (try clear hb); (try clear hb2); (try clear hk); (try clear hi)) | ((with_reducible refine gate_dst (N := 7) rfl ?_); refine bxe (N := 7) (cs := #[.int .i64 0, .int .i64 0]) (t := 23) ?_; intro gb670 hg w19 hbox hb; have BK670 := Aside0.mk (hbox); have GW670 : Aside0 (w.heap.size ≤ gb670) := gwx hg; have GE670 : Aside0 (w.heap.size ≤ gb670) := gwx hg; replace HB := Aside0.mk (below_step blx hb); have NB664_670 := nbl BK664 hg; have NB670_664 := nbg BK664 hg; replace BK664 := bkq BK664 hb; have NB665_670 := nbl BK665 hg; have NB670_665 := nbg BK665 hg; replace BK665 := bkq BK665 hb; have NB666_670 := nbl BK666 hg; have NB670_666 := nbg BK666 hg; replace BK666 := bkq BK666 hb; clear hb hbox hg; have hnb20 := NB670_664.out; have hnc20 := NB664_670.out; have hnb21 := NB670_665.out; have hnc21 := NB665_670.out; have hnb22 := NB670_666.out; have hnc22 := NB666_670.out; obtain ⟨hcz23_0, hcz23_1, hfz23_0, hfz23_1⟩ := c2_ BK670) | (go_at_call 66; (with_reducible refine (money_modes.calls a2 true _ A6.out).mono ?_); rintro e w' ⟨rfl, ⟨nd, rfl⟩⟩; (try first | exact ⟨rfl, _, World.drewN_drewN _ _ _⟩ | exact ⟨rfl, _, Eq.trans (World.drewN_drewN _ _ _) (congrArg (World.drewN _) (Nat.add_assoc _ _ _))⟩); obtain ⟨hcz24_0, hcz24_1, hfz24_0, hfz24_1⟩ := c2_ BK665) | (go_at_call 59; (with_reducible refine (money_fault.calls 2 t674 t675 _ A9.out).mono ?_); rintro e w25 ⟨rfl, hb⟩; replace BK664 := bkq BK664 hb; replace BK665 := bkq BK665 hb; replace BK666 := bkq BK666 hb; replace BK670 := Aside0.mk (blk_below (g := gb670) (o := .cells #[.int .i64 t667, .int .i64 t668] 23 (0, 0)) (by (with_reducible repeat (first | refine blk_drewN ?_ _ | refine blk_drew ?_ | refine blk_alloc ?_ _)); refine blk_put (cs := #[.int .i64 t667, .int .i64 0]) ?_ 1 _ rfl; (with_reducible repeat (first | refine blk_drewN ?_ _ | refine blk_drew ?_ | refine blk_alloc ?_ _)); refine blk_put (cs := #[.int .i64 0, .int .i64 0]) ?_ 0 _ rfl; (with_reducible repeat (first | refine blk_drewN ?_ _ | refine blk_drew ?_ | refine blk_alloc ?_ _)); exact BK670.out) hb); replace HB := Aside0.mk (below_step blx hb); (try clear hb); (try clear hb2); (try clear hk); (try clear hi); obtain ⟨hcz26_0, hcz26_1, hfz26_0, hfz26_1⟩ := c2_ BK666)))
    refine bodyPost_ret (results_cell_row rfl _ _ gb666 23 #[.int .i64 t674, .int .i64 t675] (0, 0) _ rfl (by (with_reducible repeat (first | refine blk_drewN ?_ _ | refine blk_drew ?_ | refine blk_alloc ?_ _)); refine blk_put (cs := #[.int .i64 t674, .int .i64 0]) ?_ 1 _ rfl; (with_reducible repeat (first | refine blk_drewN ?_ _ | refine blk_drew ?_ | refine blk_alloc ?_ _)); refine blk_put (cs := #[.int .i64 0, .int .i64 0]) ?_ 0 _ rfl; (with_reducible repeat (first | refine blk_drewN ?_ _ | refine blk_drew ?_ | refine blk_alloc ?_ _)); exact BK666.out) Tryd.underlying23 rfl (by kernel_rfl)) rfl ?_
    exact ⟨by first | rfl | (simp [errW_none, errW_some] <;> rfl) | (simp [*, errW_none, errW_some] <;> rfl), blx⟩
   ·rw [if_neg c8] at H
    have c8b0 : (a1_1 == 0) = false := beq_eq_false_iff_ne.mpr c8
    have c8b1 : (a1_1 != 0) = true := bne_iff_ne.mpr c8
    replace H := Option.bind_eq_some_iff.mp H
    obtain ⟨⟨t676, t677⟩, A270, H⟩ := H
    replace H : ((money_amount.f a1_1).bind fun bt678 => (if bt678.1 = 0 then (none) else ((money_rounded.f k (IntKind.u64.wrap (Int.tdiv t676 bt678.1)) (Int.tmod t676 bt678.1) bt678.1 (t677 != bt678.2) a2).bind fun bt680 => ((money_cents.f bt680.1).bind fun bt682 => (some (bt682.1, bt682.2)))))) = some (r1, r2) := H
    have A27 := Aside0.mk A270
    clear A270
    replace H := Option.bind_eq_some_iff.mp H
    obtain ⟨⟨t678, t679⟩, A280, H⟩ := H
    replace H : (if t678 = 0 then (none) else ((money_rounded.f k (IntKind.u64.wrap (Int.tdiv t676 t678)) (Int.tmod t676 t678) t678 (t677 != t679) a2).bind fun bt680 => ((money_cents.f bt680.1).bind fun bt682 => (some (bt682.1, bt682.2))))) = some (r1, r2) := H
    have A28 := Aside0.mk A280
    clear A280
    by_cases c29 : t678 = 0
    ·rw [if_pos c29] at H
     exact absurd H (by simp)
    ·rw [if_neg c29] at H
     have c29b0 : (t678 == 0) = false := beq_eq_false_iff_ne.mpr c29
     have c29b1 : (t678 != 0) = true := bne_iff_ne.mpr c29
     replace H := Option.bind_eq_some_iff.mp H
     obtain ⟨⟨t680, t681⟩, A300, H⟩ := H
     replace H : ((money_cents.f t680).bind fun bt682 => (some (bt682.1, bt682.2))) = some (r1, r2) := H
     have A30 := Aside0.mk A300
     clear A300
     replace H := Option.bind_eq_some_iff.mp H
     obtain ⟨⟨t682, t683⟩, A310, H⟩ := H
     replace H : (some (t682, t683)) = some (r1, r2) := H
     have A31 := Aside0.mk A310
     clear A310
     simp only [Option.some.injEq, Prod.mk.injEq] at H
     obtain ⟨rfl, rfl⟩ := H
     go_enter Tryd.func47, Tryd.ntmps47
     go_wp2_with (first | ((with_reducible refine gate_dst (N := 3) rfl ?_); refine bxe (N := 3) (cs := #[.int .i64 a0_0, .int .i64 a0_1]) (t := 23) ?_; intro gb664 hg w32 hbox hb; have BK664 := Aside0.mk (hbox); have GW664 : Aside0 (w.heap.size ≤ gb664) := gwx hg; have GE664 : Aside0 (w.heap.size ≤ gb664) := gwx hg; replace HB := Aside0.mk (below_step blx hb); clear hb hbox hg) | ((with_reducible refine gate_dst (N := 4) rfl ?_); refine bxe (N := 4) (cs := #[.int .i64 a1_0, .int .i64 a1_1]) (t := 23) ?_; intro gb665 hg w33 hbox hb; have BK665 := Aside0.mk (hbox); have GW665 : Aside0 (w.heap.size ≤ gb665) := gwx hg; have GE665 : Aside0 (w.heap.size ≤ gb665) := gwx hg; replace HB := Aside0.mk (below_step blx hb); have NB664_665 := nbl BK664 hg; have NB665_664 := nbg BK664 hg; replace BK664 := bkq BK664 hb; clear hb hbox hg) | ((with_reducible refine gate_dst (N := 6) rfl ?_); refine bxe (N := 6) (cs := #[.int .i64 0, .int .i64 0]) (t := 23) ?_; intro gb666 hg w34 hbox hb; have BK666 := Aside0.mk (hbox); have GW666 : Aside0 (w.heap.size ≤ gb666) := gwx hg; have GE666 : Aside0 (w.heap.size ≤ gb666) := gwx hg; replace HB := Aside0.mk (below_step blx hb); have NB664_666 := nbl BK664 hg; have NB666_664 := nbg BK664 hg; replace BK664 := bkq BK664 hb; have NB665_666 := nbl BK665 hg; have NB666_665 := nbg BK665 hg; replace BK665 := bkq BK665 hb; clear hb hbox hg; have hnb35 := NB664_665.out; have hnc35 := NB665_664.out; have hnb36 := NB664_666.out; have hnc36 := NB666_664.out; obtain ⟨hcz37_0, hcz37_1, hfz37_0, hfz37_1⟩ := c2_ BK664; have hnb38 := NB665_666.out; have hnc38 := NB666_665.out; obtain ⟨hcz39_0, hcz39_1, hfz39_0, hfz39_1⟩ := c2_ BK665) | (go_at_call 74; (with_reducible refine (money_of.calls k a0_0 a0_1 1 a1_0 a1_1 2 t667 t668 true _ A4.out (by first | exact HG0.out | exact Kd.C_below HG0.out blx)).mono ?_); rintro e w40 ⟨rfl, hb⟩; replace BK664 := bkq BK664 hb; replace BK665 := bkq BK665 hb; replace BK666 := bkq BK666 hb; replace HB := Aside0.mk (below_step blx hb); (try clear hb); (try clear hb2); (try clear hk); (try clear hi)) | ((with_reducible refine gate_dst (N := 7) rfl ?_); refine bxe (N := 7) (cs := #[.int .i64 0, .int .i64 0]) (t := 23) ?_; intro gb670 hg w41 hbox hb; have BK670 := Aside0.mk (hbox); have GW670 : Aside0 (w.heap.size ≤ gb670) := gwx hg; have GE670 : Aside0 (w.heap.size ≤ gb670) := gwx hg; replace HB := Aside0.mk (below_step blx hb); have NB664_670 := nbl BK664 hg; have NB670_664 := nbg BK664 hg; replace BK664 := bkq BK664 hb; have NB665_670 := nbl BK665 hg; have NB670_665 := nbg BK665 hg; replace BK665 := bkq BK665 hb; have NB666_670 := nbl BK666 hg; have NB670_666 := nbg BK666 hg; replace BK666 := bkq BK666 hb; clear hb hbox hg; have hnb42 := NB670_664.out; have hnc42 := NB664_670.out; have hnb43 := NB670_665.out; have hnc43 := NB665_670.out; have hnb44 := NB670_666.out; have hnc44 := NB666_670.out; obtain ⟨hcz45_0, hcz45_1, hfz45_0, hfz45_1⟩ := c2_ BK670) | (go_at_call 66; (with_reducible refine (money_modes.calls a2 true _ A6.out).mono ?_); rintro e w' ⟨rfl, ⟨nd, rfl⟩⟩; (try first | exact ⟨rfl, _, World.drewN_drewN _ _ _⟩ | exact ⟨rfl, _, Eq.trans (World.drewN_drewN _ _ _) (congrArg (World.drewN _) (Nat.add_assoc _ _ _))⟩); obtain ⟨hcz46_0, hcz46_1, hfz46_0, hfz46_1⟩ := c2_ BK665; obtain ⟨hcz47_0, hcz47_1, hfz47_0, hfz47_1⟩ := c2_ BK664) | (go_at_call 67; (with_reducible refine (money_amount.calls a0_1 t676 t677 _ A27.out).mono ?_); rintro e w' ⟨rfl, ⟨nd, rfl⟩⟩; (try first | exact ⟨rfl, _, World.drewN_drewN _ _ _⟩ | exact ⟨rfl, _, Eq.trans (World.drewN_drewN _ _ _) (congrArg (World.drewN _) (Nat.add_assoc _ _ _))⟩)) | (go_at_call 67; (with_reducible refine (money_amount.calls a1_1 t678 t679 _ A28.out).mono ?_); rintro e w' ⟨rfl, ⟨nd, rfl⟩⟩; (try first | exact ⟨rfl, _, World.drewN_drewN _ _ _⟩ | exact ⟨rfl, _, Eq.trans (World.drewN_drewN _ _ _) (congrArg (World.drewN _) (Nat.add_assoc _ _ _))⟩)) | (go_at_call 68; (try rw [show (!(t677 == t679)) = (t677 != t679) from rfl]); (with_reducible refine (money_rounded.calls k (IntKind.u64.wrap (Int.tdiv t676 t678)) (Int.tmod t676 t678) t678 (t677 != t679) a2 t680 t681 _ A30.out).mono ?_); rintro e w' ⟨rfl, ⟨nd, rfl⟩⟩; (try first | exact ⟨rfl, _, World.drewN_drewN _ _ _⟩ | exact ⟨rfl, _, Eq.trans (World.drewN_drewN _ _ _) (congrArg (World.drewN _) (Nat.add_assoc _ _ _))⟩)) | (go_at_call 69; (with_reducible refine (money_cents.calls t680 t682 t683 _ A31.out (by first | exact HG0.out | exact Kd.C_below HG0.out blx)).mono ?_); rintro e w48 ⟨rfl, hb⟩; replace BK664 := bkq BK664 hb; replace BK665 := bkq BK665 hb; replace BK666 := bkq BK666 hb; replace BK670 := Aside0.mk (blk_below (g := gb670) (o := .cells #[.int .i64 t667, .int .i64 t668] 23 (0, 0)) (by (with_reducible repeat (first | refine blk_drewN ?_ _ | refine blk_drew ?_ | refine blk_alloc ?_ _)); refine blk_put (cs := #[.int .i64 t667, .int .i64 0]) ?_ 1 _ rfl; (with_reducible repeat (first | refine blk_drewN ?_ _ | refine blk_drew ?_ | refine blk_alloc ?_ _)); refine blk_put (cs := #[.int .i64 0, .int .i64 0]) ?_ 0 _ rfl; (with_reducible repeat (first | refine blk_drewN ?_ _ | refine blk_drew ?_ | refine blk_alloc ?_ _)); exact BK670.out) hb); replace HB := Aside0.mk (below_step blx hb); (try clear hb); (try clear hb2); (try clear hk); (try clear hi); obtain ⟨hcz49_0, hcz49_1, hfz49_0, hfz49_1⟩ := c2_ BK666))
     repeat (go_quiet (first | ((with_reducible refine gate_dst (N := 3) rfl ?_); refine bxe (N := 3) (cs := #[.int .i64 a0_0, .int .i64 a0_1]) (t := 23) ?_; intro gb664 hg w32 hbox hb; have BK664 := Aside0.mk (hbox); have GW664 : Aside0 (w.heap.size ≤ gb664) := gwx hg; have GE664 : Aside0 (w.heap.size ≤ gb664) := gwx hg; replace HB := Aside0.mk (below_step blx hb); clear hb hbox hg) | ((with_reducible refine gate_dst (N := 4) rfl ?_); refine bxe (N := 4) (cs := #[.int .i64 a1_0, .int .i64 a1_1]) (t := 23) ?_; intro gb665 hg w33 hbox hb; have BK665 := Aside0.mk (hbox); have GW665 : Aside0 (w.heap.size ≤ gb665) := gwx hg; have GE665 : Aside0 (w.heap.size ≤ gb665) := gwx hg; replace HB := Aside0.mk (below_step blx hb); have NB664_665 := nbl BK664 hg; have NB665_664 := nbg BK664 hg; replace BK664 := bkq BK664 hb; clear hb hbox hg) | ((with_reducible refine gate_dst (N := 6) rfl ?_); refine bxe (N := 6) (cs := #[.int .i64 0, .int .i64 0]) (t := 23) ?_; intro gb666 hg w34 hbox hb; have BK666 := Aside0.mk (hbox); have GW666 : Aside0 (w.heap.size ≤ gb666) := gwx hg; have GE666 : Aside0 (w.heap.size ≤ gb666) := gwx hg; replace HB := Aside0.mk (below_step blx hb); have NB664_666 := nbl BK664 hg; have NB666_664 := nbg BK664 hg; replace BK664 := bkq BK664 hb; have NB665_666 := nbl BK665 hg; have NB666_665 := nbg BK665 hg; replace BK665 := bkq BK665 hb; clear hb hbox hg; have hnb35 := NB664_665.out; have hnc35 := NB665_664.out; have hnb36 := NB664_666.out; have hnc36 := NB666_664.out; obtain ⟨hcz37_0, hcz37_1, hfz37_0, hfz37_1⟩ := c2_ BK664; have hnb38 := NB665_666.out; have hnc38 := NB666_665.out; obtain ⟨hcz39_0, hcz39_1, hfz39_0, hfz39_1⟩ := c2_ BK665) | (go_at_call 74; (with_reducible refine (money_of.calls k a0_0 a0_1 1 a1_0 a1_1 2 t667 t668 true _ A4.out (by first | exact HG0.out | exact Kd.C_below HG0.out blx)).mono ?_); rintro e w40 ⟨rfl, hb⟩; replace BK664 := bkq BK664 hb; replace BK665 := bkq BK665 hb; replace BK666 := bkq BK666 hb; replace HB := Aside0.mk (below_step blx hb); (try clear hb); (try clear hb2); (try clear hk); (try clear hi)) | ((with_reducible refine gate_dst (N := 7) rfl ?_); refine bxe (N := 7) (cs := #[.int .i64 0, .int .i64 0]) (t := 23) ?_; intro gb670 hg w41 hbox hb; have BK670 := Aside0.mk (hbox); have GW670 : Aside0 (w.heap.size ≤ gb670) := gwx hg; have GE670 : Aside0 (w.heap.size ≤ gb670) := gwx hg; replace HB := Aside0.mk (below_step blx hb); have NB664_670 := nbl BK664 hg; have NB670_664 := nbg BK664 hg; replace BK664 := bkq BK664 hb; have NB665_670 := nbl BK665 hg; have NB670_665 := nbg BK665 hg; replace BK665 := bkq BK665 hb; have NB666_670 := nbl BK666 hg; have NB670_666 := nbg BK666 hg; replace BK666 := bkq BK666 hb; clear hb hbox hg; have hnb42 := NB670_664.out; have hnc42 := NB664_670.out; have hnb43 := NB670_665.out; have hnc43 := NB665_670.out; have hnb44 := NB670_666.out; have hnc44 := NB666_670.out; obtain ⟨hcz45_0, hcz45_1, hfz45_0, hfz45_1⟩ := c2_ BK670) | (go_at_call 66; (with_reducible refine (money_modes.calls a2 true _ A6.out).mono ?_); rintro e w' ⟨rfl, ⟨nd, rfl⟩⟩; (try first | exact ⟨rfl, _, World.drewN_drewN _ _ _⟩ | exact ⟨rfl, _, Eq.trans (World.drewN_drewN _ _ _) (congrArg (World.drewN _) (Nat.add_assoc _ _ _))⟩); obtain ⟨hcz46_0, hcz46_1, hfz46_0, hfz46_1⟩ := c2_ BK665; obtain ⟨hcz47_0, hcz47_1, hfz47_0, hfz47_1⟩ := c2_ BK664) | (go_at_call 67; (with_reducible refine (money_amount.calls a0_1 t676 t677 _ A27.out).mono ?_); rintro e w' ⟨rfl, ⟨nd, rfl⟩⟩; (try first | exact ⟨rfl, _, World.drewN_drewN _ _ _⟩ | exact ⟨rfl, _, Eq.trans (World.drewN_drewN _ _ _) (congrArg (World.drewN _) (Nat.add_assoc _ _ _))⟩)) | (go_at_call 67; (with_reducible refine (money_amount.calls a1_1 t678 t679 _ A28.out).mono ?_); rintro e w' ⟨rfl, ⟨nd, rfl⟩⟩; (try first | exact ⟨rfl, _, World.drewN_drewN _ _ _⟩ | exact ⟨rfl, _, Eq.trans (World.drewN_drewN _ _ _) (congrArg (World.drewN _) (Nat.add_assoc _ _ _))⟩)) | (go_at_call 68; (try rw [show (!(t677 == t679)) = (t677 != t679) from rfl]); (with_reducible refine (money_rounded.calls k (IntKind.u64.wrap (Int.tdiv t676 t678)) (Int.tmod t676 t678) t678 (t677 != t679) a2 t680 t681 _ A30.out).mono ?_); rintro e w' ⟨rfl, ⟨nd, rfl⟩⟩; (try first | exact ⟨rfl, _, World.drewN_drewN _ _ _⟩ | exact ⟨rfl, _, Eq.trans (World.drewN_drewN _ _ _) (congrArg (World.drewN _) (Nat.add_assoc _ _ _))⟩)) | (go_at_call 69; (with_reducible refine (money_cents.calls t680 t682 t683 _ A31.out (by first | exact HG0.out | exact Kd.C_below HG0.out blx)).mono ?_); rintro e w48 ⟨rfl, hb⟩; replace BK664 := bkq BK664 hb; replace BK665 := bkq BK665 hb; replace BK666 := bkq BK666 hb; replace BK670 := Aside0.mk (blk_below (g := gb670) (o := .cells #[.int .i64 t667, .int .i64 t668] 23 (0, 0)) (by (with_reducible repeat (first | refine blk_drewN ?_ _ | refine blk_drew ?_ | refine blk_alloc ?_ _)); refine blk_put (cs := #[.int .i64 t667, .int .i64 0]) ?_ 1 _ rfl; (with_reducible repeat (first | refine blk_drewN ?_ _ | refine blk_drew ?_ | refine blk_alloc ?_ _)); refine blk_put (cs := #[.int .i64 0, .int .i64 0]) ?_ 0 _ rfl; (with_reducible repeat (first | refine blk_drewN ?_ _ | refine blk_drew ?_ | refine blk_alloc ?_ _)); exact BK670.out) hb); replace HB := Aside0.mk (below_step blx hb); (try clear hb); (try clear hb2); (try clear hk); (try clear hi); obtain ⟨hcz49_0, hcz49_1, hfz49_0, hfz49_1⟩ := c2_ BK666)); try go_wp2_with (first | ((with_reducible refine gate_dst (N := 3) rfl ?_); refine bxe (N := 3) (cs := #[.int .i64 a0_0, .int .i64 a0_1]) (t := 23) ?_; intro gb664 hg w32 hbox hb; have BK664 := Aside0.mk (hbox); have GW664 : Aside0 (w.heap.size ≤ gb664) := gwx hg; have GE664 : Aside0 (w.heap.size ≤ gb664) := gwx hg; replace HB := Aside0.mk (below_step blx hb); clear hb hbox hg) | ((with_reducible refine gate_dst (N := 4) rfl ?_); refine bxe (N := 4) (cs := #[.int .i64 a1_0, .int .i64 a1_1]) (t := 23) ?_; intro gb665 hg w33 hbox hb; have BK665 := Aside0.mk (hbox); have GW665 : Aside0 (w.heap.size ≤ gb665) := gwx hg; have GE665 : Aside0 (w.heap.size ≤ gb665) := gwx hg; replace HB := Aside0.mk (below_step blx hb); have NB664_665 := nbl BK664 hg; have NB665_664 := nbg BK664 hg; replace BK664 := bkq BK664 hb; clear hb hbox hg) | ((with_reducible refine gate_dst (N := 6) rfl ?_); refine bxe (N := 6) (cs := #[.int .i64 0, .int .i64 0]) (t := 23) ?_; intro gb666 hg w34 hbox hb; have BK666 := Aside0.mk (hbox); have GW666 : Aside0 (w.heap.size ≤ gb666) := gwx hg; have GE666 : Aside0 (w.heap.size ≤ gb666) := gwx hg; replace HB := Aside0.mk (below_step blx hb); have NB664_666 := nbl BK664 hg; have NB666_664 := nbg BK664 hg; replace BK664 := bkq BK664 hb; have NB665_666 := nbl BK665 hg; have NB666_665 := nbg BK665 hg; replace BK665 := bkq BK665 hb; clear hb hbox hg; have hnb35 := NB664_665.out; have hnc35 := NB665_664.out; have hnb36 := NB664_666.out; have hnc36 := NB666_664.out; obtain ⟨hcz37_0, hcz37_1, hfz37_0, hfz37_1⟩ := c2_ BK664; have hnb38 := NB665_666.out; have hnc38 := NB666_665.out; obtain ⟨hcz39_0, hcz39_1, hfz39_0, hfz39_1⟩ := c2_ BK665) | (go_at_call 74; (with_reducible refine (money_of.calls k a0_0 a0_1 1 a1_0 a1_1 2 t667 t668 true _ A4.out (by first | exact HG0.out | exact Kd.C_below HG0.out blx)).mono ?_); rintro e w40 ⟨rfl, hb⟩; replace BK664 := bkq BK664 hb; replace BK665 := bkq BK665 hb; replace BK666 := bkq BK666 hb; replace HB := Aside0.mk (below_step blx hb); (try clear hb); (try clear hb2); (try clear hk); (try clear hi)) | ((with_reducible refine gate_dst (N := 7) rfl ?_); refine bxe (N := 7) (cs := #[.int .i64 0, .int .i64 0]) (t := 23) ?_; intro gb670 hg w41 hbox hb; have BK670 := Aside0.mk (hbox); have GW670 : Aside0 (w.heap.size ≤ gb670) := gwx hg; have GE670 : Aside0 (w.heap.size ≤ gb670) := gwx hg; replace HB := Aside0.mk (below_step blx hb); have NB664_670 := nbl BK664 hg; have NB670_664 := nbg BK664 hg; replace BK664 := bkq BK664 hb; have NB665_670 := nbl BK665 hg; have NB670_665 := nbg BK665 hg; replace BK665 := bkq BK665 hb; have NB666_670 := nbl BK666 hg; have NB670_666 := nbg BK666 hg; replace BK666 := bkq BK666 hb; clear hb hbox hg; have hnb42 := NB670_664.out; have hnc42 := NB664_670.out; have hnb43 := NB670_665.out; have hnc43 := NB665_670.out; have hnb44 := NB670_666.out; have hnc44 := NB666_670.out; obtain ⟨hcz45_0, hcz45_1, hfz45_0, hfz45_1⟩ := c2_ BK670) | (go_at_call 66; (with_reducible refine (money_modes.calls a2 true _ A6.out).mono ?_); rintro e w' ⟨rfl, ⟨nd, rfl⟩⟩; (try first | exact ⟨rfl, _, World.drewN_drewN _ _ _⟩ | exact ⟨rfl, _, Eq.trans (World.drewN_drewN _ _ _) (congrArg (World.drewN _) (Nat.add_assoc _ _ _))⟩); obtain ⟨hcz46_0, hcz46_1, hfz46_0, hfz46_1⟩ := c2_ BK665; obtain ⟨hcz47_0, hcz47_1, hfz47_0, hfz47_1⟩ := c2_ BK664) | (go_at_call 67; (with_reducible refine (money_amount.calls a0_1 t676 t677 _ A27.out).mono ?_); rintro e w' ⟨rfl, ⟨nd, rfl⟩⟩; (try first | exact ⟨rfl, _, World.drewN_drewN _ _ _⟩ | exact ⟨rfl, _, Eq.trans (World.drewN_drewN _ _ _) (congrArg (World.drewN _) (Nat.add_assoc _ _ _))⟩)) | (go_at_call 67; (with_reducible refine (money_amount.calls a1_1 t678 t679 _ A28.out).mono ?_); rintro e w' ⟨rfl, ⟨nd, rfl⟩⟩; (try first | exact ⟨rfl, _, World.drewN_drewN _ _ _⟩ | exact ⟨rfl, _, Eq.trans (World.drewN_drewN _ _ _) (congrArg (World.drewN _) (Nat.add_assoc _ _ _))⟩)) | (go_at_call 68; (try rw [show (!(t677 == t679)) = (t677 != t679) from rfl]); (with_reducible refine (money_rounded.calls k (IntKind.u64.wrap (Int.tdiv t676 t678)) (Int.tmod t676 t678) t678 (t677 != t679) a2 t680 t681 _ A30.out).mono ?_); rintro e w' ⟨rfl, ⟨nd, rfl⟩⟩; (try first | exact ⟨rfl, _, World.drewN_drewN _ _ _⟩ | exact ⟨rfl, _, Eq.trans (World.drewN_drewN _ _ _) (congrArg (World.drewN _) (Nat.add_assoc _ _ _))⟩)) | (go_at_call 69; (with_reducible refine (money_cents.calls t680 t682 t683 _ A31.out (by first | exact HG0.out | exact Kd.C_below HG0.out blx)).mono ?_); rintro e w48 ⟨rfl, hb⟩; replace BK664 := bkq BK664 hb; replace BK665 := bkq BK665 hb; replace BK666 := bkq BK666 hb; replace BK670 := Aside0.mk (blk_below (g := gb670) (o := .cells #[.int .i64 t667, .int .i64 t668] 23 (0, 0)) (by (with_reducible repeat (first | refine blk_drewN ?_ _ | refine blk_drew ?_ | refine blk_alloc ?_ _)); refine blk_put (cs := #[.int .i64 t667, .int .i64 0]) ?_ 1 _ rfl; (with_reducible repeat (first | refine blk_drewN ?_ _ | refine blk_drew ?_ | refine blk_alloc ?_ _)); refine blk_put (cs := #[.int .i64 0, .int .i64 0]) ?_ 0 _ rfl; (with_reducible repeat (first | refine blk_drewN ?_ _ | refine blk_drew ?_ | refine blk_alloc ?_ _)); exact BK670.out) hb); replace HB := Aside0.mk (below_step blx hb); (try clear hb); (try clear hb2); (try clear hk); (try clear hi); obtain ⟨hcz49_0, hcz49_1, hfz49_0, hfz49_1⟩ := c2_ BK666)))
     refine bodyPost_ret (results_cell_row rfl _ _ gb666 23 #[.int .i64 t682, .int .i64 t683] (0, 0) _ rfl (by (with_reducible repeat (first | refine blk_drewN ?_ _ | refine blk_drew ?_ | refine blk_alloc ?_ _)); refine blk_put (cs := #[.int .i64 t682, .int .i64 0]) ?_ 1 _ rfl; (with_reducible repeat (first | refine blk_drewN ?_ _ | refine blk_drew ?_ | refine blk_alloc ?_ _)); refine blk_put (cs := #[.int .i64 0, .int .i64 0]) ?_ 0 _ rfl; (with_reducible repeat (first | refine blk_drewN ?_ _ | refine blk_drew ?_ | refine blk_alloc ?_ _)); exact BK666.out) Tryd.underlying23 rfl (by kernel_rfl)) rfl ?_
     exact ⟨by first | rfl | (simp [errW_none, errW_some] <;> rfl) | (simp [*, errW_none, errW_some] <;> rfl), blx⟩
  ·replace c7 := Bool.eq_false_iff.mpr c7
   subst c7
   have H1 : ((money_fault.f 5).bind fun bt672 => (some (bt672.1, bt672.2))) = some (r1, r2) := by rw [if_neg (show ¬ (false = true) by decide)] at H; exact H
   clear H
   have H := H1
   clear H1
   replace H := Option.bind_eq_some_iff.mp H
   obtain ⟨⟨t672, t673⟩, A500, H⟩ := H
   replace H : (some (t672, t673)) = some (r1, r2) := H
   have A50 := Aside0.mk A500
   clear A500
   simp only [Option.some.injEq, Prod.mk.injEq] at H
   obtain ⟨rfl, rfl⟩ := H
   go_enter Tryd.func47, Tryd.ntmps47
   go_wp2_with (first | ((with_reducible refine gate_dst (N := 3) rfl ?_); refine bxe (N := 3) (cs := #[.int .i64 a0_0, .int .i64 a0_1]) (t := 23) ?_; intro gb664 hg w51 hbox hb; have BK664 := Aside0.mk (hbox); have GW664 : Aside0 (w.heap.size ≤ gb664) := gwx hg; have GE664 : Aside0 (w.heap.size ≤ gb664) := gwx hg; replace HB := Aside0.mk (below_step blx hb); clear hb hbox hg) | ((with_reducible refine gate_dst (N := 4) rfl ?_); refine bxe (N := 4) (cs := #[.int .i64 a1_0, .int .i64 a1_1]) (t := 23) ?_; intro gb665 hg w52 hbox hb; have BK665 := Aside0.mk (hbox); have GW665 : Aside0 (w.heap.size ≤ gb665) := gwx hg; have GE665 : Aside0 (w.heap.size ≤ gb665) := gwx hg; replace HB := Aside0.mk (below_step blx hb); have NB664_665 := nbl BK664 hg; have NB665_664 := nbg BK664 hg; replace BK664 := bkq BK664 hb; clear hb hbox hg) | ((with_reducible refine gate_dst (N := 6) rfl ?_); refine bxe (N := 6) (cs := #[.int .i64 0, .int .i64 0]) (t := 23) ?_; intro gb666 hg w53 hbox hb; have BK666 := Aside0.mk (hbox); have GW666 : Aside0 (w.heap.size ≤ gb666) := gwx hg; have GE666 : Aside0 (w.heap.size ≤ gb666) := gwx hg; replace HB := Aside0.mk (below_step blx hb); have NB664_666 := nbl BK664 hg; have NB666_664 := nbg BK664 hg; replace BK664 := bkq BK664 hb; have NB665_666 := nbl BK665 hg; have NB666_665 := nbg BK665 hg; replace BK665 := bkq BK665 hb; clear hb hbox hg; have hnb54 := NB664_665.out; have hnc54 := NB665_664.out; have hnb55 := NB664_666.out; have hnc55 := NB666_664.out; obtain ⟨hcz56_0, hcz56_1, hfz56_0, hfz56_1⟩ := c2_ BK664; have hnb57 := NB665_666.out; have hnc57 := NB666_665.out; obtain ⟨hcz58_0, hcz58_1, hfz58_0, hfz58_1⟩ := c2_ BK665) | (go_at_call 74; (with_reducible refine (money_of.calls k a0_0 a0_1 1 a1_0 a1_1 2 t667 t668 true _ A4.out (by first | exact HG0.out | exact Kd.C_below HG0.out blx)).mono ?_); rintro e w59 ⟨rfl, hb⟩; replace BK664 := bkq BK664 hb; replace BK665 := bkq BK665 hb; replace BK666 := bkq BK666 hb; replace HB := Aside0.mk (below_step blx hb); (try clear hb); (try clear hb2); (try clear hk); (try clear hi)) | ((with_reducible refine gate_dst (N := 7) rfl ?_); refine bxe (N := 7) (cs := #[.int .i64 0, .int .i64 0]) (t := 23) ?_; intro gb670 hg w60 hbox hb; have BK670 := Aside0.mk (hbox); have GW670 : Aside0 (w.heap.size ≤ gb670) := gwx hg; have GE670 : Aside0 (w.heap.size ≤ gb670) := gwx hg; replace HB := Aside0.mk (below_step blx hb); have NB664_670 := nbl BK664 hg; have NB670_664 := nbg BK664 hg; replace BK664 := bkq BK664 hb; have NB665_670 := nbl BK665 hg; have NB670_665 := nbg BK665 hg; replace BK665 := bkq BK665 hb; have NB666_670 := nbl BK666 hg; have NB670_666 := nbg BK666 hg; replace BK666 := bkq BK666 hb; clear hb hbox hg; have hnb61 := NB670_664.out; have hnc61 := NB664_670.out; have hnb62 := NB670_665.out; have hnc62 := NB665_670.out; have hnb63 := NB670_666.out; have hnc63 := NB666_670.out; obtain ⟨hcz64_0, hcz64_1, hfz64_0, hfz64_1⟩ := c2_ BK670) | (go_at_call 66; (with_reducible refine (money_modes.calls a2 false _ A6.out).mono ?_); rintro e w' ⟨rfl, ⟨nd, rfl⟩⟩; (try first | exact ⟨rfl, _, World.drewN_drewN _ _ _⟩ | exact ⟨rfl, _, Eq.trans (World.drewN_drewN _ _ _) (congrArg (World.drewN _) (Nat.add_assoc _ _ _))⟩)) | (go_at_call 59; (with_reducible refine (money_fault.calls 5 t672 t673 _ A50.out).mono ?_); rintro e w65 ⟨rfl, hb⟩; replace BK664 := bkq BK664 hb; replace BK665 := bkq BK665 hb; replace BK666 := bkq BK666 hb; replace BK670 := Aside0.mk (blk_below (g := gb670) (o := .cells #[.int .i64 t667, .int .i64 t668] 23 (0, 0)) (by (with_reducible repeat (first | refine blk_drewN ?_ _ | refine blk_drew ?_ | refine blk_alloc ?_ _)); refine blk_put (cs := #[.int .i64 t667, .int .i64 0]) ?_ 1 _ rfl; (with_reducible repeat (first | refine blk_drewN ?_ _ | refine blk_drew ?_ | refine blk_alloc ?_ _)); refine blk_put (cs := #[.int .i64 0, .int .i64 0]) ?_ 0 _ rfl; (with_reducible repeat (first | refine blk_drewN ?_ _ | refine blk_drew ?_ | refine blk_alloc ?_ _)); exact BK670.out) hb); replace HB := Aside0.mk (below_step blx hb); (try clear hb); (try clear hb2); (try clear hk); (try clear hi); obtain ⟨hcz66_0, hcz66_1, hfz66_0, hfz66_1⟩ := c2_ BK666))
   repeat (go_quiet (first | ((with_reducible refine gate_dst (N := 3) rfl ?_); refine bxe (N := 3) (cs := #[.int .i64 a0_0, .int .i64 a0_1]) (t := 23) ?_; intro gb664 hg w51 hbox hb; have BK664 := Aside0.mk (hbox); have GW664 : Aside0 (w.heap.size ≤ gb664) := gwx hg; have GE664 : Aside0 (w.heap.size ≤ gb664) := gwx hg; replace HB := Aside0.mk (below_step blx hb); clear hb hbox hg) | ((with_reducible refine gate_dst (N := 4) rfl ?_); refine bxe (N := 4) (cs := #[.int .i64 a1_0, .int .i64 a1_1]) (t := 23) ?_; intro gb665 hg w52 hbox hb; have BK665 := Aside0.mk (hbox); have GW665 : Aside0 (w.heap.size ≤ gb665) := gwx hg; have GE665 : Aside0 (w.heap.size ≤ gb665) := gwx hg; replace HB := Aside0.mk (below_step blx hb); have NB664_665 := nbl BK664 hg; have NB665_664 := nbg BK664 hg; replace BK664 := bkq BK664 hb; clear hb hbox hg) | ((with_reducible refine gate_dst (N := 6) rfl ?_); refine bxe (N := 6) (cs := #[.int .i64 0, .int .i64 0]) (t := 23) ?_; intro gb666 hg w53 hbox hb; have BK666 := Aside0.mk (hbox); have GW666 : Aside0 (w.heap.size ≤ gb666) := gwx hg; have GE666 : Aside0 (w.heap.size ≤ gb666) := gwx hg; replace HB := Aside0.mk (below_step blx hb); have NB664_666 := nbl BK664 hg; have NB666_664 := nbg BK664 hg; replace BK664 := bkq BK664 hb; have NB665_666 := nbl BK665 hg; have NB666_665 := nbg BK665 hg; replace BK665 := bkq BK665 hb; clear hb hbox hg; have hnb54 := NB664_665.out; have hnc54 := NB665_664.out; have hnb55 := NB664_666.out; have hnc55 := NB666_664.out; obtain ⟨hcz56_0, hcz56_1, hfz56_0, hfz56_1⟩ := c2_ BK664; have hnb57 := NB665_666.out; have hnc57 := NB666_665.out; obtain ⟨hcz58_0, hcz58_1, hfz58_0, hfz58_1⟩ := c2_ BK665) | (go_at_call 74; (with_reducible refine (money_of.calls k a0_0 a0_1 1 a1_0 a1_1 2 t667 t668 true _ A4.out (by first | exact HG0.out | exact Kd.C_below HG0.out blx)).mono ?_); rintro e w59 ⟨rfl, hb⟩; replace BK664 := bkq BK664 hb; replace BK665 := bkq BK665 hb; replace BK666 := bkq BK666 hb; replace HB := Aside0.mk (below_step blx hb); (try clear hb); (try clear hb2); (try clear hk); (try clear hi)) | ((with_reducible refine gate_dst (N := 7) rfl ?_); refine bxe (N := 7) (cs := #[.int .i64 0, .int .i64 0]) (t := 23) ?_; intro gb670 hg w60 hbox hb; have BK670 := Aside0.mk (hbox); have GW670 : Aside0 (w.heap.size ≤ gb670) := gwx hg; have GE670 : Aside0 (w.heap.size ≤ gb670) := gwx hg; replace HB := Aside0.mk (below_step blx hb); have NB664_670 := nbl BK664 hg; have NB670_664 := nbg BK664 hg; replace BK664 := bkq BK664 hb; have NB665_670 := nbl BK665 hg; have NB670_665 := nbg BK665 hg; replace BK665 := bkq BK665 hb; have NB666_670 := nbl BK666 hg; have NB670_666 := nbg BK666 hg; replace BK666 := bkq BK666 hb; clear hb hbox hg; have hnb61 := NB670_664.out; have hnc61 := NB664_670.out; have hnb62 := NB670_665.out; have hnc62 := NB665_670.out; have hnb63 := NB670_666.out; have hnc63 := NB666_670.out; obtain ⟨hcz64_0, hcz64_1, hfz64_0, hfz64_1⟩ := c2_ BK670) | (go_at_call 66; (with_reducible refine (money_modes.calls a2 false _ A6.out).mono ?_); rintro e w' ⟨rfl, ⟨nd, rfl⟩⟩; (try first | exact ⟨rfl, _, World.drewN_drewN _ _ _⟩ | exact ⟨rfl, _, Eq.trans (World.drewN_drewN _ _ _) (congrArg (World.drewN _) (Nat.add_assoc _ _ _))⟩)) | (go_at_call 59; (with_reducible refine (money_fault.calls 5 t672 t673 _ A50.out).mono ?_); rintro e w65 ⟨rfl, hb⟩; replace BK664 := bkq BK664 hb; replace BK665 := bkq BK665 hb; replace BK666 := bkq BK666 hb; replace BK670 := Aside0.mk (blk_below (g := gb670) (o := .cells #[.int .i64 t667, .int .i64 t668] 23 (0, 0)) (by (with_reducible repeat (first | refine blk_drewN ?_ _ | refine blk_drew ?_ | refine blk_alloc ?_ _)); refine blk_put (cs := #[.int .i64 t667, .int .i64 0]) ?_ 1 _ rfl; (with_reducible repeat (first | refine blk_drewN ?_ _ | refine blk_drew ?_ | refine blk_alloc ?_ _)); refine blk_put (cs := #[.int .i64 0, .int .i64 0]) ?_ 0 _ rfl; (with_reducible repeat (first | refine blk_drewN ?_ _ | refine blk_drew ?_ | refine blk_alloc ?_ _)); exact BK670.out) hb); replace HB := Aside0.mk (below_step blx hb); (try clear hb); (try clear hb2); (try clear hk); (try clear hi); obtain ⟨hcz66_0, hcz66_1, hfz66_0, hfz66_1⟩ := c2_ BK666)); try go_wp2_with (first | ((with_reducible refine gate_dst (N := 3) rfl ?_); refine bxe (N := 3) (cs := #[.int .i64 a0_0, .int .i64 a0_1]) (t := 23) ?_; intro gb664 hg w51 hbox hb; have BK664 := Aside0.mk (hbox); have GW664 : Aside0 (w.heap.size ≤ gb664) := gwx hg; have GE664 : Aside0 (w.heap.size ≤ gb664) := gwx hg; replace HB := Aside0.mk (below_step blx hb); clear hb hbox hg) | ((with_reducible refine gate_dst (N := 4) rfl ?_); refine bxe (N := 4) (cs := #[.int .i64 a1_0, .int .i64 a1_1]) (t := 23) ?_; intro gb665 hg w52 hbox hb; have BK665 := Aside0.mk (hbox); have GW665 : Aside0 (w.heap.size ≤ gb665) := gwx hg; have GE665 : Aside0 (w.heap.size ≤ gb665) := gwx hg; replace HB := Aside0.mk (below_step blx hb); have NB664_665 := nbl BK664 hg; have NB665_664 := nbg BK664 hg; replace BK664 := bkq BK664 hb; clear hb hbox hg) | ((with_reducible refine gate_dst (N := 6) rfl ?_); refine bxe (N := 6) (cs := #[.int .i64 0, .int .i64 0]) (t := 23) ?_; intro gb666 hg w53 hbox hb; have BK666 := Aside0.mk (hbox); have GW666 : Aside0 (w.heap.size ≤ gb666) := gwx hg; have GE666 : Aside0 (w.heap.size ≤ gb666) := gwx hg; replace HB := Aside0.mk (below_step blx hb); have NB664_666 := nbl BK664 hg; have NB666_664 := nbg BK664 hg; replace BK664 := bkq BK664 hb; have NB665_666 := nbl BK665 hg; have NB666_665 := nbg BK665 hg; replace BK665 := bkq BK665 hb; clear hb hbox hg; have hnb54 := NB664_665.out; have hnc54 := NB665_664.out; have hnb55 := NB664_666.out; have hnc55 := NB666_664.out; obtain ⟨hcz56_0, hcz56_1, hfz56_0, hfz56_1⟩ := c2_ BK664; have hnb57 := NB665_666.out; have hnc57 := NB666_665.out; obtain ⟨hcz58_0, hcz58_1, hfz58_0, hfz58_1⟩ := c2_ BK665) | (go_at_call 74; (with_reducible refine (money_of.calls k a0_0 a0_1 1 a1_0 a1_1 2 t667 t668 true _ A4.out (by first | exact HG0.out | exact Kd.C_below HG0.out blx)).mono ?_); rintro e w59 ⟨rfl, hb⟩; replace BK664 := bkq BK664 hb; replace BK665 := bkq BK665 hb; replace BK666 := bkq BK666 hb; replace HB := Aside0.mk (below_step blx hb); (try clear hb); (try clear hb2); (try clear hk); (try clear hi)) | ((with_reducible refine gate_dst (N := 7) rfl ?_); refine bxe (N := 7) (cs := #[.int .i64 0, .int .i64 0]) (t := 23) ?_; intro gb670 hg w60 hbox hb; have BK670 := Aside0.mk (hbox); have GW670 : Aside0 (w.heap.size ≤ gb670) := gwx hg; have GE670 : Aside0 (w.heap.size ≤ gb670) := gwx hg; replace HB := Aside0.mk (below_step blx hb); have NB664_670 := nbl BK664 hg; have NB670_664 := nbg BK664 hg; replace BK664 := bkq BK664 hb; have NB665_670 := nbl BK665 hg; have NB670_665 := nbg BK665 hg; replace BK665 := bkq BK665 hb; have NB666_670 := nbl BK666 hg; have NB670_666 := nbg BK666 hg; replace BK666 := bkq BK666 hb; clear hb hbox hg; have hnb61 := NB670_664.out; have hnc61 := NB664_670.out; have hnb62 := NB670_665.out; have hnc62 := NB665_670.out; have hnb63 := NB670_666.out; have hnc63 := NB666_670.out; obtain ⟨hcz64_0, hcz64_1, hfz64_0, hfz64_1⟩ := c2_ BK670) | (go_at_call 66; (with_reducible refine (money_modes.calls a2 false _ A6.out).mono ?_); rintro e w' ⟨rfl, ⟨nd, rfl⟩⟩; (try first | exact ⟨rfl, _, World.drewN_drewN _ _ _⟩ | exact ⟨rfl, _, Eq.trans (World.drewN_drewN _ _ _) (congrArg (World.drewN _) (Nat.add_assoc _ _ _))⟩)) | (go_at_call 59; (with_reducible refine (money_fault.calls 5 t672 t673 _ A50.out).mono ?_); rintro e w65 ⟨rfl, hb⟩; replace BK664 := bkq BK664 hb; replace BK665 := bkq BK665 hb; replace BK666 := bkq BK666 hb; replace BK670 := Aside0.mk (blk_below (g := gb670) (o := .cells #[.int .i64 t667, .int .i64 t668] 23 (0, 0)) (by (with_reducible repeat (first | refine blk_drewN ?_ _ | refine blk_drew ?_ | refine blk_alloc ?_ _)); refine blk_put (cs := #[.int .i64 t667, .int .i64 0]) ?_ 1 _ rfl; (with_reducible repeat (first | refine blk_drewN ?_ _ | refine blk_drew ?_ | refine blk_alloc ?_ _)); refine blk_put (cs := #[.int .i64 0, .int .i64 0]) ?_ 0 _ rfl; (with_reducible repeat (first | refine blk_drewN ?_ _ | refine blk_drew ?_ | refine blk_alloc ?_ _)); exact BK670.out) hb); replace HB := Aside0.mk (below_step blx hb); (try clear hb); (try clear hb2); (try clear hk); (try clear hi); obtain ⟨hcz66_0, hcz66_1, hfz66_0, hfz66_1⟩ := c2_ BK666)))
   refine bodyPost_ret (results_cell_row rfl _ _ gb666 23 #[.int .i64 t672, .int .i64 t673] (0, 0) _ rfl (by (with_reducible repeat (first | refine blk_drewN ?_ _ | refine blk_drew ?_ | refine blk_alloc ?_ _)); refine blk_put (cs := #[.int .i64 t672, .int .i64 0]) ?_ 1 _ rfl; (with_reducible repeat (first | refine blk_drewN ?_ _ | refine blk_drew ?_ | refine blk_alloc ?_ _)); refine blk_put (cs := #[.int .i64 0, .int .i64 0]) ?_ 0 _ rfl; (with_reducible repeat (first | refine blk_drewN ?_ _ | refine blk_drew ?_ | refine blk_alloc ?_ _)); exact BK666.out) Tryd.underlying23 rfl (by kernel_rfl)) rfl ?_
   exact ⟨by first | rfl | (simp [errW_none, errW_some] <;> rfl) | (simp [*, errW_none, errW_some] <;> rfl), blx⟩
 ·replace c5 := Bool.eq_false_iff.mpr c5
  subst c5
  have H1 : (some (t667, t668)) = some (r1, r2) := by rw [if_neg (show ¬ (false = true) by decide)] at H; exact H
  clear H
  have H := H1
  clear H1
  simp only [Option.some.injEq, Prod.mk.injEq] at H
  obtain ⟨rfl, rfl⟩ := H
  go_enter Tryd.func47, Tryd.ntmps47
  go_wp2_with (first | ((with_reducible refine gate_dst (N := 3) rfl ?_); refine bxe (N := 3) (cs := #[.int .i64 a0_0, .int .i64 a0_1]) (t := 23) ?_; intro gb664 hg w67 hbox hb; have BK664 := Aside0.mk (hbox); have GW664 : Aside0 (w.heap.size ≤ gb664) := gwx hg; have GE664 : Aside0 (w.heap.size ≤ gb664) := gwx hg; replace HB := Aside0.mk (below_step blx hb); clear hb hbox hg) | ((with_reducible refine gate_dst (N := 4) rfl ?_); refine bxe (N := 4) (cs := #[.int .i64 a1_0, .int .i64 a1_1]) (t := 23) ?_; intro gb665 hg w68 hbox hb; have BK665 := Aside0.mk (hbox); have GW665 : Aside0 (w.heap.size ≤ gb665) := gwx hg; have GE665 : Aside0 (w.heap.size ≤ gb665) := gwx hg; replace HB := Aside0.mk (below_step blx hb); have NB664_665 := nbl BK664 hg; have NB665_664 := nbg BK664 hg; replace BK664 := bkq BK664 hb; clear hb hbox hg) | ((with_reducible refine gate_dst (N := 6) rfl ?_); refine bxe (N := 6) (cs := #[.int .i64 0, .int .i64 0]) (t := 23) ?_; intro gb666 hg w69 hbox hb; have BK666 := Aside0.mk (hbox); have GW666 : Aside0 (w.heap.size ≤ gb666) := gwx hg; have GE666 : Aside0 (w.heap.size ≤ gb666) := gwx hg; replace HB := Aside0.mk (below_step blx hb); have NB664_666 := nbl BK664 hg; have NB666_664 := nbg BK664 hg; replace BK664 := bkq BK664 hb; have NB665_666 := nbl BK665 hg; have NB666_665 := nbg BK665 hg; replace BK665 := bkq BK665 hb; clear hb hbox hg; have hnb70 := NB664_665.out; have hnc70 := NB665_664.out; have hnb71 := NB664_666.out; have hnc71 := NB666_664.out; obtain ⟨hcz72_0, hcz72_1, hfz72_0, hfz72_1⟩ := c2_ BK664; have hnb73 := NB665_666.out; have hnc73 := NB666_665.out; obtain ⟨hcz74_0, hcz74_1, hfz74_0, hfz74_1⟩ := c2_ BK665) | (go_at_call 74; (with_reducible refine (money_of.calls k a0_0 a0_1 1 a1_0 a1_1 2 t667 t668 false _ A4.out (by first | exact HG0.out | exact Kd.C_below HG0.out blx)).mono ?_); rintro e w75 ⟨rfl, hb⟩; replace BK664 := bkq BK664 hb; replace BK665 := bkq BK665 hb; replace BK666 := bkq BK666 hb; replace HB := Aside0.mk (below_step blx hb); (try clear hb); (try clear hb2); (try clear hk); (try clear hi)) | ((with_reducible refine gate_dst (N := 7) rfl ?_); refine bxe (N := 7) (cs := #[.int .i64 0, .int .i64 0]) (t := 23) ?_; intro gb670 hg w76 hbox hb; have BK670 := Aside0.mk (hbox); have GW670 : Aside0 (w.heap.size ≤ gb670) := gwx hg; have GE670 : Aside0 (w.heap.size ≤ gb670) := gwx hg; replace HB := Aside0.mk (below_step blx hb); have NB664_670 := nbl BK664 hg; have NB670_664 := nbg BK664 hg; replace BK664 := bkq BK664 hb; have NB665_670 := nbl BK665 hg; have NB670_665 := nbg BK665 hg; replace BK665 := bkq BK665 hb; have NB666_670 := nbl BK666 hg; have NB670_666 := nbg BK666 hg; replace BK666 := bkq BK666 hb; clear hb hbox hg; have hnb77 := NB670_664.out; have hnc77 := NB664_670.out; have hnb78 := NB670_665.out; have hnc78 := NB665_670.out; have hnb79 := NB670_666.out; have hnc79 := NB666_670.out; obtain ⟨hcz80_0, hcz80_1, hfz80_0, hfz80_1⟩ := c2_ BK670; obtain ⟨hcz81_0, hcz81_1, hfz81_0, hfz81_1⟩ := c2_ BK666))
  repeat (go_quiet (first | ((with_reducible refine gate_dst (N := 3) rfl ?_); refine bxe (N := 3) (cs := #[.int .i64 a0_0, .int .i64 a0_1]) (t := 23) ?_; intro gb664 hg w67 hbox hb; have BK664 := Aside0.mk (hbox); have GW664 : Aside0 (w.heap.size ≤ gb664) := gwx hg; have GE664 : Aside0 (w.heap.size ≤ gb664) := gwx hg; replace HB := Aside0.mk (below_step blx hb); clear hb hbox hg) | ((with_reducible refine gate_dst (N := 4) rfl ?_); refine bxe (N := 4) (cs := #[.int .i64 a1_0, .int .i64 a1_1]) (t := 23) ?_; intro gb665 hg w68 hbox hb; have BK665 := Aside0.mk (hbox); have GW665 : Aside0 (w.heap.size ≤ gb665) := gwx hg; have GE665 : Aside0 (w.heap.size ≤ gb665) := gwx hg; replace HB := Aside0.mk (below_step blx hb); have NB664_665 := nbl BK664 hg; have NB665_664 := nbg BK664 hg; replace BK664 := bkq BK664 hb; clear hb hbox hg) | ((with_reducible refine gate_dst (N := 6) rfl ?_); refine bxe (N := 6) (cs := #[.int .i64 0, .int .i64 0]) (t := 23) ?_; intro gb666 hg w69 hbox hb; have BK666 := Aside0.mk (hbox); have GW666 : Aside0 (w.heap.size ≤ gb666) := gwx hg; have GE666 : Aside0 (w.heap.size ≤ gb666) := gwx hg; replace HB := Aside0.mk (below_step blx hb); have NB664_666 := nbl BK664 hg; have NB666_664 := nbg BK664 hg; replace BK664 := bkq BK664 hb; have NB665_666 := nbl BK665 hg; have NB666_665 := nbg BK665 hg; replace BK665 := bkq BK665 hb; clear hb hbox hg; have hnb70 := NB664_665.out; have hnc70 := NB665_664.out; have hnb71 := NB664_666.out; have hnc71 := NB666_664.out; obtain ⟨hcz72_0, hcz72_1, hfz72_0, hfz72_1⟩ := c2_ BK664; have hnb73 := NB665_666.out; have hnc73 := NB666_665.out; obtain ⟨hcz74_0, hcz74_1, hfz74_0, hfz74_1⟩ := c2_ BK665) | (go_at_call 74; (with_reducible refine (money_of.calls k a0_0 a0_1 1 a1_0 a1_1 2 t667 t668 false _ A4.out (by first | exact HG0.out | exact Kd.C_below HG0.out blx)).mono ?_); rintro e w75 ⟨rfl, hb⟩; replace BK664 := bkq BK664 hb; replace BK665 := bkq BK665 hb; replace BK666 := bkq BK666 hb; replace HB := Aside0.mk (below_step blx hb); (try clear hb); (try clear hb2); (try clear hk); (try clear hi)) | ((with_reducible refine gate_dst (N := 7) rfl ?_); refine bxe (N := 7) (cs := #[.int .i64 0, .int .i64 0]) (t := 23) ?_; intro gb670 hg w76 hbox hb; have BK670 := Aside0.mk (hbox); have GW670 : Aside0 (w.heap.size ≤ gb670) := gwx hg; have GE670 : Aside0 (w.heap.size ≤ gb670) := gwx hg; replace HB := Aside0.mk (below_step blx hb); have NB664_670 := nbl BK664 hg; have NB670_664 := nbg BK664 hg; replace BK664 := bkq BK664 hb; have NB665_670 := nbl BK665 hg; have NB670_665 := nbg BK665 hg; replace BK665 := bkq BK665 hb; have NB666_670 := nbl BK666 hg; have NB670_666 := nbg BK666 hg; replace BK666 := bkq BK666 hb; clear hb hbox hg; have hnb77 := NB670_664.out; have hnc77 := NB664_670.out; have hnb78 := NB670_665.out; have hnc78 := NB665_670.out; have hnb79 := NB670_666.out; have hnc79 := NB666_670.out; obtain ⟨hcz80_0, hcz80_1, hfz80_0, hfz80_1⟩ := c2_ BK670; obtain ⟨hcz81_0, hcz81_1, hfz81_0, hfz81_1⟩ := c2_ BK666)); try go_wp2_with (first | ((with_reducible refine gate_dst (N := 3) rfl ?_); refine bxe (N := 3) (cs := #[.int .i64 a0_0, .int .i64 a0_1]) (t := 23) ?_; intro gb664 hg w67 hbox hb; have BK664 := Aside0.mk (hbox); have GW664 : Aside0 (w.heap.size ≤ gb664) := gwx hg; have GE664 : Aside0 (w.heap.size ≤ gb664) := gwx hg; replace HB := Aside0.mk (below_step blx hb); clear hb hbox hg) | ((with_reducible refine gate_dst (N := 4) rfl ?_); refine bxe (N := 4) (cs := #[.int .i64 a1_0, .int .i64 a1_1]) (t := 23) ?_; intro gb665 hg w68 hbox hb; have BK665 := Aside0.mk (hbox); have GW665 : Aside0 (w.heap.size ≤ gb665) := gwx hg; have GE665 : Aside0 (w.heap.size ≤ gb665) := gwx hg; replace HB := Aside0.mk (below_step blx hb); have NB664_665 := nbl BK664 hg; have NB665_664 := nbg BK664 hg; replace BK664 := bkq BK664 hb; clear hb hbox hg) | ((with_reducible refine gate_dst (N := 6) rfl ?_); refine bxe (N := 6) (cs := #[.int .i64 0, .int .i64 0]) (t := 23) ?_; intro gb666 hg w69 hbox hb; have BK666 := Aside0.mk (hbox); have GW666 : Aside0 (w.heap.size ≤ gb666) := gwx hg; have GE666 : Aside0 (w.heap.size ≤ gb666) := gwx hg; replace HB := Aside0.mk (below_step blx hb); have NB664_666 := nbl BK664 hg; have NB666_664 := nbg BK664 hg; replace BK664 := bkq BK664 hb; have NB665_666 := nbl BK665 hg; have NB666_665 := nbg BK665 hg; replace BK665 := bkq BK665 hb; clear hb hbox hg; have hnb70 := NB664_665.out; have hnc70 := NB665_664.out; have hnb71 := NB664_666.out; have hnc71 := NB666_664.out; obtain ⟨hcz72_0, hcz72_1, hfz72_0, hfz72_1⟩ := c2_ BK664; have hnb73 := NB665_666.out; have hnc73 := NB666_665.out; obtain ⟨hcz74_0, hcz74_1, hfz74_0, hfz74_1⟩ := c2_ BK665) | (go_at_call 74; (with_reducible refine (money_of.calls k a0_0 a0_1 1 a1_0 a1_1 2 t667 t668 false _ A4.out (by first | exact HG0.out | exact Kd.C_below HG0.out blx)).mono ?_); rintro e w75 ⟨rfl, hb⟩; replace BK664 := bkq BK664 hb; replace BK665 := bkq BK665 hb; replace BK666 := bkq BK666 hb; replace HB := Aside0.mk (below_step blx hb); (try clear hb); (try clear hb2); (try clear hk); (try clear hi)) | ((with_reducible refine gate_dst (N := 7) rfl ?_); refine bxe (N := 7) (cs := #[.int .i64 0, .int .i64 0]) (t := 23) ?_; intro gb670 hg w76 hbox hb; have BK670 := Aside0.mk (hbox); have GW670 : Aside0 (w.heap.size ≤ gb670) := gwx hg; have GE670 : Aside0 (w.heap.size ≤ gb670) := gwx hg; replace HB := Aside0.mk (below_step blx hb); have NB664_670 := nbl BK664 hg; have NB670_664 := nbg BK664 hg; replace BK664 := bkq BK664 hb; have NB665_670 := nbl BK665 hg; have NB670_665 := nbg BK665 hg; replace BK665 := bkq BK665 hb; have NB666_670 := nbl BK666 hg; have NB670_666 := nbg BK666 hg; replace BK666 := bkq BK666 hb; clear hb hbox hg; have hnb77 := NB670_664.out; have hnc77 := NB664_670.out; have hnb78 := NB670_665.out; have hnc78 := NB665_670.out; have hnb79 := NB670_666.out; have hnc79 := NB666_670.out; obtain ⟨hcz80_0, hcz80_1, hfz80_0, hfz80_1⟩ := c2_ BK670; obtain ⟨hcz81_0, hcz81_1, hfz81_0, hfz81_1⟩ := c2_ BK666)))
  refine bodyPost_ret (results_cell_row rfl _ _ gb666 23 #[.int .i64 t667, .int .i64 t668] (0, 0) _ rfl (by (with_reducible repeat (first | refine blk_drewN ?_ _ | refine blk_drew ?_ | refine blk_alloc ?_ _)); refine blk_put (cs := #[.int .i64 t667, .int .i64 0]) ?_ 1 _ rfl; (with_reducible repeat (first | refine blk_drewN ?_ _ | refine blk_drew ?_ | refine blk_alloc ?_ _)); refine blk_put (cs := #[.int .i64 0, .int .i64 0]) ?_ 0 _ rfl; (with_reducible repeat (first | refine blk_drewN ?_ _ | refine blk_drew ?_ | refine blk_alloc ?_ _)); refine blk_far ?_ NB666_670.out _; (with_reducible repeat (first | refine blk_drewN ?_ _ | refine blk_drew ?_ | refine blk_alloc ?_ _)); refine blk_far ?_ NB666_670.out _; (with_reducible repeat (first | refine blk_drewN ?_ _ | refine blk_drew ?_ | refine blk_alloc ?_ _)); exact BK666.out) Tryd.underlying23 rfl (by kernel_rfl)) rfl ?_
  exact ⟨by first | rfl | (simp [errW_none, errW_some] <;> rfl) | (simp [*, errW_none, errW_some] <;> rfl), blx⟩
end Go.Proofs.YtnjhjaifmgjljaaDoor.PM
end

section
namespace Go.Proofs.YtnjhjaifmgjljaaDoor.PM
open Go.RowKit Go.Proofs.YtnjhjaifmgjljaaDoorW.PrintWords Go.Proofs.YtnjhjaifmgjljaaDoorW.PrintLast Go.Proofs.YtnjhjaifmgjljaaDoorW.PrintMore
attribute [local go_sem] max2_int min2_int max_two min_two max_three min_three max_four min_four
set_option linter.unusedVariables false
set_option linter.unusedSimpArgs false
def bits_LeadingZeros64.f (a0 : Int) : Option (Int) := if 0 ≤ a0 then (if a0 ≤ 18446744073709551615 then (some (64 - (Lib.bitLen a0.toNat : Int))) else none) else none
theorem bits_LeadingZeros64.calls (a0 : Int) (r : Int) (w : World) (h : bits_LeadingZeros64.f a0 = some r) :
    Calls Tryd.prog 103 #[.int .u64 a0] w fun e w' => e = .returned (.int .i64 r) ∧ Drawn0 w w' := by
  unfold bits_LeadingZeros64.f at h
  by_cases h0 : 0 ≤ a0
  · rw [if_pos h0] at h
    by_cases h1 : a0 ≤ 18446744073709551615
    · rw [if_pos h1] at h
      cases h
      exact (Tryd.bits_LeadingZeros64 a0 w h0 h1).mono fun e w' ⟨he, hw⟩ => ⟨he, by subst hw; exact Drawn0.refl _⟩
    · rw [if_neg h1] at h; cases h
  · rw [if_neg h0] at h; cases h
end Go.Proofs.YtnjhjaifmgjljaaDoor.PM
end

section
namespace Go.Proofs.YtnjhjaifmgjljaaDoor.PM
open Go.RowKit Go.Proofs.YtnjhjaifmgjljaaDoorW.PrintWords Go.Proofs.YtnjhjaifmgjljaaDoorW.PrintLast Go.Proofs.YtnjhjaifmgjljaaDoorW.PrintMore
attribute [local go_sem] max2_int min2_int max_two min_two max_three min_three max_four min_four
set_option linter.unusedVariables false
set_option linter.unusedSimpArgs false
mutual
def bits_Div64.j2 : Nat → Int → Int → Int → Int → Int → Int → Int → Int → Option (Int × Int)
 | 0, _, _, _, _, _, _, _, _ => none
 | k + 1, x2, x8, x9, x10, x11, x13, x14, x15 => if x9 = 0 then (none) else (bits_Div64.l1 k x2 x8 x9 x10 x14 x15 (IntKind.u64.wrap ((IntKind.u64.wrap ((IntKind.u64.wrap ((IntKind.u64.wrap (x11 * 4294967296)) + x13)) - (IntKind.u64.wrap (x15 * x2)))) - (IntKind.u64.wrap ((IntKind.u64.wrap (Int.tdiv (IntKind.u64.wrap ((IntKind.u64.wrap ((IntKind.u64.wrap (x11 * 4294967296)) + x13)) - (IntKind.u64.wrap (x15 * x2)))) x9)) * x9)))) (IntKind.u64.wrap ((IntKind.u64.wrap ((IntKind.u64.wrap (x11 * 4294967296)) + x13)) - (IntKind.u64.wrap (x15 * x2)))) (IntKind.u64.wrap (Int.tdiv (IntKind.u64.wrap ((IntKind.u64.wrap ((IntKind.u64.wrap (x11 * 4294967296)) + x13)) - (IntKind.u64.wrap (x15 * x2)))) x9)))
def bits_Div64.l1 : Nat → Int → Int → Int → Int → Int → Int → Int → Int → Int → Option (Int × Int)
 | 0, _, _, _, _, _, _, _, _, _ => none
 | k + 1, x2, x8, x9, x10, x14, x15, x16, x17, x18 => if x18 ≥ 4294967296 then (bits_Div64.j4 k x2 x8 x9 x10 x14 x15 x16 x17 x18 true) else (bits_Div64.j4 k x2 x8 x9 x10 x14 x15 x16 x17 x18 (decide ((IntKind.u64.wrap (x18 * x10)) > (IntKind.u64.wrap ((IntKind.u64.wrap (4294967296 * x16)) + x14)))))
def bits_Div64.j4 : Nat → Int → Int → Int → Int → Int → Int → Int → Int → Int → Bool → Option (Int × Int)
 | 0, _, _, _, _, _, _, _, _, _, _ => none
 | k + 1, x2, x8, x9, x10, x14, x15, x16, x17, x18, x113 => if x113 = true then (if (IntKind.u64.wrap (x16 + x9)) ≥ 4294967296 then (if 0 ≤ x8 then (some (IntKind.u64.wrap ((IntKind.u64.wrap (x15 * 4294967296)) + (IntKind.u64.wrap (x18 - 1))), shr .u64 (IntKind.u64.wrap ((IntKind.u64.wrap ((IntKind.u64.wrap (x17 * 4294967296)) + x14)) - (IntKind.u64.wrap ((IntKind.u64.wrap (x18 - 1)) * x2)))) x8)) else (none)) else (bits_Div64.l1 k x2 x8 x9 x10 x14 x15 (IntKind.u64.wrap (x16 + x9)) x17 (IntKind.u64.wrap (x18 - 1)))) else (if 0 ≤ x8 then (some (IntKind.u64.wrap ((IntKind.u64.wrap (x15 * 4294967296)) + x18), shr .u64 (IntKind.u64.wrap ((IntKind.u64.wrap ((IntKind.u64.wrap (x17 * 4294967296)) + x14)) - (IntKind.u64.wrap (x18 * x2)))) x8)) else (none))
def bits_Div64.l0 : Nat → Int → Int → Int → Int → Int → Int → Int → Int → Int → Option (Int × Int)
 | 0, _, _, _, _, _, _, _, _, _ => none
 | k + 1, x2, x8, x9, x10, x11, x13, x14, x15, x16 => if x15 ≥ 4294967296 then (bits_Div64.j1 k x2 x8 x9 x10 x11 x13 x14 x15 x16 true) else (bits_Div64.j1 k x2 x8 x9 x10 x11 x13 x14 x15 x16 (decide ((IntKind.u64.wrap (x15 * x10)) > (IntKind.u64.wrap ((IntKind.u64.wrap (4294967296 * x16)) + x13)))))
def bits_Div64.j1 : Nat → Int → Int → Int → Int → Int → Int → Int → Int → Int → Bool → Option (Int × Int)
 | 0, _, _, _, _, _, _, _, _, _, _ => none
 | k + 1, x2, x8, x9, x10, x11, x13, x14, x15, x16, x78 => if x78 = true then (if (IntKind.u64.wrap (x16 + x9)) ≥ 4294967296 then (bits_Div64.j2 k x2 x8 x9 x10 x11 x13 x14 (IntKind.u64.wrap (x15 - 1))) else (bits_Div64.l0 k x2 x8 x9 x10 x11 x13 x14 (IntKind.u64.wrap (x15 - 1)) (IntKind.u64.wrap (x16 + x9)))) else (bits_Div64.j2 k x2 x8 x9 x10 x11 x13 x14 x15)
end
def bits_Div64.f (k : Nat) (a0 : Int) (a1 : Int) (a2 : Int) : Option (Int × Int) := if a2 = 0 then (none) else (if a2 ≤ a0 then (none) else (if a0 = 0 then (some (IntKind.u64.wrap (Int.tdiv a1 a2), Int.tmod a1 a2)) else ((bits_LeadingZeros64.f a2).bind fun t713 => (if 0 ≤ (IntKind.u64.wrap (t713)) then (if 0 ≤ (IntKind.u64.wrap (64 - (IntKind.u64.wrap (t713)))) then (if ((shl .u64 a2 (IntKind.u64.wrap (t713))) / 4294967296) = 0 then (none) else (bits_Div64.l0 k (shl .u64 a2 (IntKind.u64.wrap (t713))) (IntKind.u64.wrap (t713)) ((shl .u64 a2 (IntKind.u64.wrap (t713))) / 4294967296) (Go.bits .and .u64 (shl .u64 a2 (IntKind.u64.wrap (t713))) 4294967295) (Go.bits .or .u64 (shl .u64 a0 (IntKind.u64.wrap (t713))) (shr .u64 a1 (IntKind.u64.wrap (64 - (IntKind.u64.wrap (t713)))))) ((shl .u64 a1 (IntKind.u64.wrap (t713))) / 4294967296) (Go.bits .and .u64 (shl .u64 a1 (IntKind.u64.wrap (t713))) 4294967295) (IntKind.u64.wrap (Int.tdiv (Go.bits .or .u64 (shl .u64 a0 (IntKind.u64.wrap (t713))) (shr .u64 a1 (IntKind.u64.wrap (64 - (IntKind.u64.wrap (t713)))))) ((shl .u64 a2 (IntKind.u64.wrap (t713))) / 4294967296))) (IntKind.u64.wrap ((Go.bits .or .u64 (shl .u64 a0 (IntKind.u64.wrap (t713))) (shr .u64 a1 (IntKind.u64.wrap (64 - (IntKind.u64.wrap (t713)))))) - (IntKind.u64.wrap ((IntKind.u64.wrap (Int.tdiv (Go.bits .or .u64 (shl .u64 a0 (IntKind.u64.wrap (t713))) (shr .u64 a1 (IntKind.u64.wrap (64 - (IntKind.u64.wrap (t713)))))) ((shl .u64 a2 (IntKind.u64.wrap (t713))) / 4294967296))) * ((shl .u64 a2 (IntKind.u64.wrap (t713))) / 4294967296))))))) else (none)) else (none)))))
theorem bits_Div64.mono_l : ∀ k, (∀ y0 y1 y2 y3 y4 y5 y6 y7, LeO (bits_Div64.j2 k y0 y1 y2 y3 y4 y5 y6 y7) (bits_Div64.j2 (k + 1) y0 y1 y2 y3 y4 y5 y6 y7)) ∧ (∀ y0 y1 y2 y3 y4 y5 y6 y7 y8, LeO (bits_Div64.l1 k y0 y1 y2 y3 y4 y5 y6 y7 y8) (bits_Div64.l1 (k + 1) y0 y1 y2 y3 y4 y5 y6 y7 y8)) ∧ (∀ y0 y1 y2 y3 y4 y5 y6 y7 y8 y9, LeO (bits_Div64.j4 k y0 y1 y2 y3 y4 y5 y6 y7 y8 y9) (bits_Div64.j4 (k + 1) y0 y1 y2 y3 y4 y5 y6 y7 y8 y9)) ∧ (∀ y0 y1 y2 y3 y4 y5 y6 y7 y8, LeO (bits_Div64.l0 k y0 y1 y2 y3 y4 y5 y6 y7 y8) (bits_Div64.l0 (k + 1) y0 y1 y2 y3 y4 y5 y6 y7 y8)) ∧ (∀ y0 y1 y2 y3 y4 y5 y6 y7 y8 y9, LeO (bits_Div64.j1 k y0 y1 y2 y3 y4 y5 y6 y7 y8 y9) (bits_Div64.j1 (k + 1) y0 y1 y2 y3 y4 y5 y6 y7 y8 y9))
 | 0 => ⟨fun _ _ _ _ _ _ _ _ r h => by simp [bits_Div64.j2] at h, fun _ _ _ _ _ _ _ _ _ r h => by simp [bits_Div64.l1] at h, fun _ _ _ _ _ _ _ _ _ _ r h => by simp [bits_Div64.j4] at h, fun _ _ _ _ _ _ _ _ _ r h => by simp [bits_Div64.l0] at h, fun _ _ _ _ _ _ _ _ _ _ r h => by simp [bits_Div64.j1] at h⟩
 | k + 1 => by
  obtain ⟨ih0, ih1, ih2, ih3, ih4⟩ := bits_Div64.mono_l k
  refine ⟨?_, ?_, ?_, ?_, ?_⟩
  ·intro y0 y1 y2 y3 y4 y5 y6 y7
   unfold bits_Div64.j2
   repeat' first
   | (with_reducible exact ih0 _ _ _ _ _ _ _ _)
   | (with_reducible exact ih1 _ _ _ _ _ _ _ _ _)
   | (with_reducible exact ih2 _ _ _ _ _ _ _ _ _ _)
   | (with_reducible exact ih3 _ _ _ _ _ _ _ _ _)
   | (with_reducible exact ih4 _ _ _ _ _ _ _ _ _ _)
   | (with_reducible exact LeO.refl _)
   | (with_reducible exact LeO.none _)
   | (with_reducible refine LeO.ite ?_ ?_)
   | (with_reducible refine LeO.bind ?_ (fun _ => ?_))
   | exact ih0 _ _ _ _ _ _ _ _
   | exact ih1 _ _ _ _ _ _ _ _ _
   | exact ih2 _ _ _ _ _ _ _ _ _ _
   | exact ih3 _ _ _ _ _ _ _ _ _
   | exact ih4 _ _ _ _ _ _ _ _ _ _
   | exact LeO.none _
   | refine LeO.ite ?_ ?_
   | refine LeO.bind ?_ (fun _ => ?_)
  ·intro y0 y1 y2 y3 y4 y5 y6 y7 y8
   unfold bits_Div64.l1
   repeat' first
   | (with_reducible exact ih0 _ _ _ _ _ _ _ _)
   | (with_reducible exact ih1 _ _ _ _ _ _ _ _ _)
   | (with_reducible exact ih2 _ _ _ _ _ _ _ _ _ _)
   | (with_reducible exact ih3 _ _ _ _ _ _ _ _ _)
   | (with_reducible exact ih4 _ _ _ _ _ _ _ _ _ _)
   | (with_reducible exact LeO.refl _)
   | (with_reducible exact LeO.none _)
   | (with_reducible refine LeO.ite ?_ ?_)
   | (with_reducible refine LeO.bind ?_ (fun _ => ?_))
   | exact ih0 _ _ _ _ _ _ _ _
   | exact ih1 _ _ _ _ _ _ _ _ _
   | exact ih2 _ _ _ _ _ _ _ _ _ _
   | exact ih3 _ _ _ _ _ _ _ _ _
   | exact ih4 _ _ _ _ _ _ _ _ _ _
   | exact LeO.none _
   | refine LeO.ite ?_ ?_
   | refine LeO.bind ?_ (fun _ => ?_)
  ·intro y0 y1 y2 y3 y4 y5 y6 y7 y8 y9
   unfold bits_Div64.j4
   repeat' first
   | (with_reducible exact ih0 _ _ _ _ _ _ _ _)
   | (with_reducible exact ih1 _ _ _ _ _ _ _ _ _)
   | (with_reducible exact ih2 _ _ _ _ _ _ _ _ _ _)
   | (with_reducible exact ih3 _ _ _ _ _ _ _ _ _)
   | (with_reducible exact ih4 _ _ _ _ _ _ _ _ _ _)
   | (with_reducible exact LeO.refl _)
   | (with_reducible exact LeO.none _)
   | (with_reducible refine LeO.ite ?_ ?_)
   | (with_reducible refine LeO.bind ?_ (fun _ => ?_))
   | exact ih0 _ _ _ _ _ _ _ _
   | exact ih1 _ _ _ _ _ _ _ _ _
   | exact ih2 _ _ _ _ _ _ _ _ _ _
   | exact ih3 _ _ _ _ _ _ _ _ _
   | exact ih4 _ _ _ _ _ _ _ _ _ _
   | exact LeO.none _
   | refine LeO.ite ?_ ?_
   | refine LeO.bind ?_ (fun _ => ?_)
  ·intro y0 y1 y2 y3 y4 y5 y6 y7 y8
   unfold bits_Div64.l0
   repeat' first
   | (with_reducible exact ih0 _ _ _ _ _ _ _ _)
   | (with_reducible exact ih1 _ _ _ _ _ _ _ _ _)
   | (with_reducible exact ih2 _ _ _ _ _ _ _ _ _ _)
   | (with_reducible exact ih3 _ _ _ _ _ _ _ _ _)
   | (with_reducible exact ih4 _ _ _ _ _ _ _ _ _ _)
   | (with_reducible exact LeO.refl _)
   | (with_reducible exact LeO.none _)
   | (with_reducible refine LeO.ite ?_ ?_)
   | (with_reducible refine LeO.bind ?_ (fun _ => ?_))
   | exact ih0 _ _ _ _ _ _ _ _
   | exact ih1 _ _ _ _ _ _ _ _ _
   | exact ih2 _ _ _ _ _ _ _ _ _ _
   | exact ih3 _ _ _ _ _ _ _ _ _
   | exact ih4 _ _ _ _ _ _ _ _ _ _
   | exact LeO.none _
   | refine LeO.ite ?_ ?_
   | refine LeO.bind ?_ (fun _ => ?_)
  ·intro y0 y1 y2 y3 y4 y5 y6 y7 y8 y9
   unfold bits_Div64.j1
   repeat' first
   | (with_reducible exact ih0 _ _ _ _ _ _ _ _)
   | (with_reducible exact ih1 _ _ _ _ _ _ _ _ _)
   | (with_reducible exact ih2 _ _ _ _ _ _ _ _ _ _)
   | (with_reducible exact ih3 _ _ _ _ _ _ _ _ _)
   | (with_reducible exact ih4 _ _ _ _ _ _ _ _ _ _)
   | (with_reducible exact LeO.refl _)
   | (with_reducible exact LeO.none _)
   | (with_reducible refine LeO.ite ?_ ?_)
   | (with_reducible refine LeO.bind ?_ (fun _ => ?_))
   | exact ih0 _ _ _ _ _ _ _ _
   | exact ih1 _ _ _ _ _ _ _ _ _
   | exact ih2 _ _ _ _ _ _ _ _ _ _
   | exact ih3 _ _ _ _ _ _ _ _ _
   | exact ih4 _ _ _ _ _ _ _ _ _ _
   | exact LeO.none _
   | refine LeO.ite ?_ ?_
   | refine LeO.bind ?_ (fun _ => ?_)
theorem bits_Div64.mono : ∀ a0 a1 a2 k, LeO (bits_Div64.f k a0 a1 a2) (bits_Div64.f (k + 1) a0 a1 a2) := by
 intro a0 a1 a2 k
 obtain ⟨ih0, ih1, ih2, ih3, ih4⟩ := bits_Div64.mono_l k
 unfold bits_Div64.f
 repeat' first
   | (with_reducible exact ih0 _ _ _ _ _ _ _ _)
   | (with_reducible exact ih1 _ _ _ _ _ _ _ _ _)
   | (with_reducible exact ih2 _ _ _ _ _ _ _ _ _ _)
   | (with_reducible exact ih3 _ _ _ _ _ _ _ _ _)
   | (with_reducible exact ih4 _ _ _ _ _ _ _ _ _ _)
   | (with_reducible exact LeO.refl _)
   | (with_reducible exact LeO.none _)
   | (with_reducible refine LeO.ite ?_ ?_)
   | (with_reducible refine LeO.bind ?_ (fun _ => ?_))
   | exact ih0 _ _ _ _ _ _ _ _
   | exact ih1 _ _ _ _ _ _ _ _ _
   | exact ih2 _ _ _ _ _ _ _ _ _ _
   | exact ih3 _ _ _ _ _ _ _ _ _
   | exact ih4 _ _ _ _ _ _ _ _ _ _
   | exact LeO.none _
   | refine LeO.ite ?_ ?_
   | refine LeO.bind ?_ (fun _ => ?_)
set_option maxHeartbeats 8000000 in
set_option maxRecDepth 100000 in
theorem bits_Div64.calls (k : Nat) (a0 : Int) (a1 : Int) (a2 : Int) (r1 : Int) (r2 : Int) (w : World) (h : bits_Div64.f k a0 a1 a2 = some (r1, r2)) :
  Calls Tryd.prog 100 #[.int .u64 a0, .int .u64 a1, .int .u64 a2] w fun e w' => e = .returned (.tuple #[.int .u64 r1, .int .u64 r2]) ∧ Drawn0 w w' := by
 have H : (if a2 = 0 then (none) else (if a2 ≤ a0 then (none) else (if a0 = 0 then (some (IntKind.u64.wrap (Int.tdiv a1 a2), Int.tmod a1 a2)) else ((bits_LeadingZeros64.f a2).bind fun t713 => (if 0 ≤ (IntKind.u64.wrap (t713)) then (if 0 ≤ (IntKind.u64.wrap (64 - (IntKind.u64.wrap (t713)))) then (if ((shl .u64 a2 (IntKind.u64.wrap (t713))) / 4294967296) = 0 then (none) else (bits_Div64.l0 k (shl .u64 a2 (IntKind.u64.wrap (t713))) (IntKind.u64.wrap (t713)) ((shl .u64 a2 (IntKind.u64.wrap (t713))) / 4294967296) (Go.bits .and .u64 (shl .u64 a2 (IntKind.u64.wrap (t713))) 4294967295) (Go.bits .or .u64 (shl .u64 a0 (IntKind.u64.wrap (t713))) (shr .u64 a1 (IntKind.u64.wrap (64 - (IntKind.u64.wrap (t713)))))) ((shl .u64 a1 (IntKind.u64.wrap (t713))) / 4294967296) (Go.bits .and .u64 (shl .u64 a1 (IntKind.u64.wrap (t713))) 4294967295) (IntKind.u64.wrap (Int.tdiv (Go.bits .or .u64 (shl .u64 a0 (IntKind.u64.wrap (t713))) (shr .u64 a1 (IntKind.u64.wrap (64 - (IntKind.u64.wrap (t713)))))) ((shl .u64 a2 (IntKind.u64.wrap (t713))) / 4294967296))) (IntKind.u64.wrap ((Go.bits .or .u64 (shl .u64 a0 (IntKind.u64.wrap (t713))) (shr .u64 a1 (IntKind.u64.wrap (64 - (IntKind.u64.wrap (t713)))))) - (IntKind.u64.wrap ((IntKind.u64.wrap (Int.tdiv (Go.bits .or .u64 (shl .u64 a0 (IntKind.u64.wrap (t713))) (shr .u64 a1 (IntKind.u64.wrap (64 - (IntKind.u64.wrap (t713)))))) ((shl .u64 a2 (IntKind.u64.wrap (t713))) / 4294967296))) * ((shl .u64 a2 (IntKind.u64.wrap (t713))) / 4294967296))))))) else (none)) else (none)))))) = some (r1, r2) := h
 clear h
 by_cases c4 : a2 = 0
 ·rw [if_pos c4] at H
  exact absurd H (by simp)
 ·rw [if_neg c4] at H
  have c4b0 : (a2 == 0) = false := beq_eq_false_iff_ne.mpr c4
  have c4b1 : (a2 != 0) = true := bne_iff_ne.mpr c4
  by_cases c5 : a2 ≤ a0
  ·rw [if_pos c5] at H
   exact absurd H (by simp)
  ·rw [if_neg c5] at H
   have c5b0 : decide (a2 ≤ a0) = false := decide_eq_false c5
   clear c5
   by_cases c6 : a0 = 0
   ·rw [if_pos c6] at H
    have c6b0 : (a0 == 0) = true := beq_iff_eq.mpr c6
    have c6b1 : (a0 != 0) = false := bne_eq_false_iff_eq.mpr c6
    clear c6
    simp only [Option.some.injEq, Prod.mk.injEq] at H
    obtain ⟨rfl, rfl⟩ := H
    go_enter Tryd.func100, Tryd.ntmps100
    go_wp2
    repeat (go_quiet (fail); try go_wp2)
    go_ret2
    exact ⟨by first | rfl | (simp; done) | (simp [*]; done), by repeat (first | exact Drawn0.refl _ | apply Drawn0.step)⟩
   ·rw [if_neg c6] at H
    have c6b0 : (a0 == 0) = false := beq_eq_false_iff_ne.mpr c6
    have c6b1 : (a0 != 0) = true := bne_iff_ne.mpr c6
    replace H := Option.bind_eq_some_iff.mp H
    obtain ⟨t713, A70, H⟩ := H
    replace H : (if 0 ≤ (IntKind.u64.wrap (t713)) then (if 0 ≤ (IntKind.u64.wrap (64 - (IntKind.u64.wrap (t713)))) then (if ((shl .u64 a2 (IntKind.u64.wrap (t713))) / 4294967296) = 0 then (none) else (bits_Div64.l0 k (shl .u64 a2 (IntKind.u64.wrap (t713))) (IntKind.u64.wrap (t713)) ((shl .u64 a2 (IntKind.u64.wrap (t713))) / 4294967296) (Go.bits .and .u64 (shl .u64 a2 (IntKind.u64.wrap (t713))) 4294967295) (Go.bits .or .u64 (shl .u64 a0 (IntKind.u64.wrap (t713))) (shr .u64 a1 (IntKind.u64.wrap (64 - (IntKind.u64.wrap (t713)))))) ((shl .u64 a1 (IntKind.u64.wrap (t713))) / 4294967296) (Go.bits .and .u64 (shl .u64 a1 (IntKind.u64.wrap (t713))) 4294967295) (IntKind.u64.wrap (Int.tdiv (Go.bits .or .u64 (shl .u64 a0 (IntKind.u64.wrap (t713))) (shr .u64 a1 (IntKind.u64.wrap (64 - (IntKind.u64.wrap (t713)))))) ((shl .u64 a2 (IntKind.u64.wrap (t713))) / 4294967296))) (IntKind.u64.wrap ((Go.bits .or .u64 (shl .u64 a0 (IntKind.u64.wrap (t713))) (shr .u64 a1 (IntKind.u64.wrap (64 - (IntKind.u64.wrap (t713)))))) - (IntKind.u64.wrap ((IntKind.u64.wrap (Int.tdiv (Go.bits .or .u64 (shl .u64 a0 (IntKind.u64.wrap (t713))) (shr .u64 a1 (IntKind.u64.wrap (64 - (IntKind.u64.wrap (t713)))))) ((shl .u64 a2 (IntKind.u64.wrap (t713))) / 4294967296))) * ((shl .u64 a2 (IntKind.u64.wrap (t713))) / 4294967296))))))) else (none)) else (none)) = some (r1, r2) := H
    have A7 := Aside0.mk A70
    clear A70
    obtain ⟨ji8, hji8⟩ : ∃ j_ : Int, (IntKind.u64.wrap (t713)) = j_ := ⟨_, rfl⟩
    replace H : (if 0 ≤ (ji8) then (if 0 ≤ (IntKind.u64.wrap (64 - (ji8))) then (if ((shl .u64 a2 (ji8)) / 4294967296) = 0 then (none) else (bits_Div64.l0 k (shl .u64 a2 (ji8)) ji8 ((shl .u64 a2 (ji8)) / 4294967296) (Go.bits .and .u64 (shl .u64 a2 (ji8)) 4294967295) (Go.bits .or .u64 (shl .u64 a0 (ji8)) (shr .u64 a1 (IntKind.u64.wrap (64 - (ji8))))) ((shl .u64 a1 (ji8)) / 4294967296) (Go.bits .and .u64 (shl .u64 a1 (ji8)) 4294967295) (IntKind.u64.wrap (Int.tdiv (Go.bits .or .u64 (shl .u64 a0 (ji8)) (shr .u64 a1 (IntKind.u64.wrap (64 - (ji8))))) ((shl .u64 a2 (ji8)) / 4294967296))) (IntKind.u64.wrap ((Go.bits .or .u64 (shl .u64 a0 (ji8)) (shr .u64 a1 (IntKind.u64.wrap (64 - (ji8))))) - (IntKind.u64.wrap ((IntKind.u64.wrap (Int.tdiv (Go.bits .or .u64 (shl .u64 a0 (ji8)) (shr .u64 a1 (IntKind.u64.wrap (64 - (ji8))))) ((shl .u64 a2 (ji8)) / 4294967296))) * ((shl .u64 a2 (ji8)) / 4294967296))))))) else (none)) else (none)) = some (r1, r2) := by first | (rw [hji8] at H; exact H) | (simp only [hji8] at H ⊢; exact H)
    (try rw [hji8] at A7)
    by_cases c9 : 0 ≤ (ji8)
    ·rw [if_pos c9] at H
     have c9b0 := eq_true c9
     have c9b1 : decide (0 ≤ (ji8)) = true := decide_eq_true c9
     clear c9
     obtain ⟨ji10, hji10⟩ : ∃ j_ : Int, (shl .u64 a2 (ji8)) = j_ := ⟨_, rfl⟩
     replace H : (if 0 ≤ (IntKind.u64.wrap (64 - (ji8))) then (if ((ji10) / 4294967296) = 0 then (none) else (bits_Div64.l0 k ji10 ji8 ((ji10) / 4294967296) (Go.bits .and .u64 (ji10) 4294967295) (Go.bits .or .u64 (shl .u64 a0 (ji8)) (shr .u64 a1 (IntKind.u64.wrap (64 - (ji8))))) ((shl .u64 a1 (ji8)) / 4294967296) (Go.bits .and .u64 (shl .u64 a1 (ji8)) 4294967295) (IntKind.u64.wrap (Int.tdiv (Go.bits .or .u64 (shl .u64 a0 (ji8)) (shr .u64 a1 (IntKind.u64.wrap (64 - (ji8))))) ((ji10) / 4294967296))) (IntKind.u64.wrap ((Go.bits .or .u64 (shl .u64 a0 (ji8)) (shr .u64 a1 (IntKind.u64.wrap (64 - (ji8))))) - (IntKind.u64.wrap ((IntKind.u64.wrap (Int.tdiv (Go.bits .or .u64 (shl .u64 a0 (ji8)) (shr .u64 a1 (IntKind.u64.wrap (64 - (ji8))))) ((ji10) / 4294967296))) * ((ji10) / 4294967296))))))) else (none)) = some (r1, r2) := by first | (rw [hji10] at H; exact H) | (simp only [hji10] at H ⊢; exact H)
     (try rw [hji10] at A7)
     have hji10_ : (IntKind.u64.wrap (a2 * 2 ^ min (ji8).toNat 64)) = ji10 := hji10
     have hji10z : (ji8) ≤ 64 → (IntKind.u64.wrap (a2 * 2 ^ (ji8).toNat)) = ji10 := shl_small hji10
     have c11b0 := eq_true (odx : 0 ≤ (ji8))
     obtain ⟨ji12, hji12⟩ : ∃ j_ : Int, (shl .u64 a0 (ji8)) = j_ := ⟨_, rfl⟩
     replace H : (if 0 ≤ (IntKind.u64.wrap (64 - (ji8))) then (if ((ji10) / 4294967296) = 0 then (none) else (bits_Div64.l0 k ji10 ji8 ((ji10) / 4294967296) (Go.bits .and .u64 (ji10) 4294967295) (Go.bits .or .u64 (ji12) (shr .u64 a1 (IntKind.u64.wrap (64 - (ji8))))) ((shl .u64 a1 (ji8)) / 4294967296) (Go.bits .and .u64 (shl .u64 a1 (ji8)) 4294967295) (IntKind.u64.wrap (Int.tdiv (Go.bits .or .u64 (ji12) (shr .u64 a1 (IntKind.u64.wrap (64 - (ji8))))) ((ji10) / 4294967296))) (IntKind.u64.wrap ((Go.bits .or .u64 (ji12) (shr .u64 a1 (IntKind.u64.wrap (64 - (ji8))))) - (IntKind.u64.wrap ((IntKind.u64.wrap (Int.tdiv (Go.bits .or .u64 (ji12) (shr .u64 a1 (IntKind.u64.wrap (64 - (ji8))))) ((ji10) / 4294967296))) * ((ji10) / 4294967296))))))) else (none)) = some (r1, r2) := by first | (rw [hji12] at H; exact H) | (simp only [hji12] at H ⊢; exact H)
     (try rw [hji12] at A7)
     have hji12_ : (IntKind.u64.wrap (a0 * 2 ^ min (ji8).toNat 64)) = ji12 := hji12
     have hji12z : (ji8) ≤ 64 → (IntKind.u64.wrap (a0 * 2 ^ (ji8).toNat)) = ji12 := shl_small hji12
     obtain ⟨ji13, hji13⟩ : ∃ j_ : Int, (IntKind.u64.wrap (64 - (ji8))) = j_ := ⟨_, rfl⟩
     replace H : (if 0 ≤ (ji13) then (if ((ji10) / 4294967296) = 0 then (none) else (bits_Div64.l0 k ji10 ji8 ((ji10) / 4294967296) (Go.bits .and .u64 (ji10) 4294967295) (Go.bits .or .u64 (ji12) (shr .u64 a1 (ji13))) ((shl .u64 a1 (ji8)) / 4294967296) (Go.bits .and .u64 (shl .u64 a1 (ji8)) 4294967295) (IntKind.u64.wrap (Int.tdiv (Go.bits .or .u64 (ji12) (shr .u64 a1 (ji13))) ((ji10) / 4294967296))) (IntKind.u64.wrap ((Go.bits .or .u64 (ji12) (shr .u64 a1 (ji13))) - (IntKind.u64.wrap ((IntKind.u64.wrap (Int.tdiv (Go.bits .or .u64 (ji12) (shr .u64 a1 (ji13))) ((ji10) / 4294967296))) * ((ji10) / 4294967296))))))) else (none)) = some (r1, r2) := by first | (rw [hji13] at H; exact H) | (simp only [hji13] at H ⊢; exact H)
     (try rw [hji13] at A7)
     by_cases c14 : 0 ≤ (ji13)
     ·rw [if_pos c14] at H
      have c14b0 := eq_true c14
      have c14b1 : decide (0 ≤ (ji13)) = true := decide_eq_true c14
      clear c14
      obtain ⟨ji15, hji15⟩ : ∃ j_ : Int, (shr .u64 a1 (ji13)) = j_ := ⟨_, rfl⟩
      replace H : (if ((ji10) / 4294967296) = 0 then (none) else (bits_Div64.l0 k ji10 ji8 ((ji10) / 4294967296) (Go.bits .and .u64 (ji10) 4294967295) (Go.bits .or .u64 (ji12) (ji15)) ((shl .u64 a1 (ji8)) / 4294967296) (Go.bits .and .u64 (shl .u64 a1 (ji8)) 4294967295) (IntKind.u64.wrap (Int.tdiv (Go.bits .or .u64 (ji12) (ji15)) ((ji10) / 4294967296))) (IntKind.u64.wrap ((Go.bits .or .u64 (ji12) (ji15)) - (IntKind.u64.wrap ((IntKind.u64.wrap (Int.tdiv (Go.bits .or .u64 (ji12) (ji15)) ((ji10) / 4294967296))) * ((ji10) / 4294967296))))))) = some (r1, r2) := by first | (rw [hji15] at H; exact H) | (simp only [hji15] at H ⊢; exact H)
      (try rw [hji15] at A7)
      have hji15_ : (a1 / 2 ^ min (ji13).toNat 64) = ji15 := hji15
      have hji15z : (ji13) ≤ 64 → (a1 / 2 ^ (ji13).toNat) = ji15 := shr_small hji15
      have c16b0 := eq_true (odx : 0 ≤ (ji8))
      obtain ⟨ji17, hji17⟩ : ∃ j_ : Int, (shl .u64 a1 (ji8)) = j_ := ⟨_, rfl⟩
      replace H : (if ((ji10) / 4294967296) = 0 then (none) else (bits_Div64.l0 k ji10 ji8 ((ji10) / 4294967296) (Go.bits .and .u64 (ji10) 4294967295) (Go.bits .or .u64 (ji12) (ji15)) ((ji17) / 4294967296) (Go.bits .and .u64 (ji17) 4294967295) (IntKind.u64.wrap (Int.tdiv (Go.bits .or .u64 (ji12) (ji15)) ((ji10) / 4294967296))) (IntKind.u64.wrap ((Go.bits .or .u64 (ji12) (ji15)) - (IntKind.u64.wrap ((IntKind.u64.wrap (Int.tdiv (Go.bits .or .u64 (ji12) (ji15)) ((ji10) / 4294967296))) * ((ji10) / 4294967296))))))) = some (r1, r2) := by first | (rw [hji17] at H; exact H) | (simp only [hji17] at H ⊢; exact H)
      (try rw [hji17] at A7)
      have hji17_ : (IntKind.u64.wrap (a1 * 2 ^ min (ji8).toNat 64)) = ji17 := hji17
      have hji17z : (ji8) ≤ 64 → (IntKind.u64.wrap (a1 * 2 ^ (ji8).toNat)) = ji17 := shl_small hji17
      by_cases c18 : ((ji10) / 4294967296) = 0
      ·rw [if_pos c18] at H
       exact absurd H (by simp)
      ·rw [if_neg c18] at H
       have c18b0 : (((ji10) / 4294967296) == 0) = false := beq_eq_false_iff_ne.mpr c18
       have c18b1 : (((ji10) / 4294967296) != 0) = true := bne_iff_ne.mpr c18
       have HC19 := Aside0.mk H
       clear H
       go_enter Tryd.func100, Tryd.ntmps100
       go_upto_block 0 with (first | (go_at_call 103; (with_reducible refine (bits_LeadingZeros64.calls a2 t713 _ A7.out).mono ?_); rintro e w' ⟨rfl, ⟨nd, rfl⟩⟩; (try first | exact ⟨rfl, _, World.drewN_drewN _ _ _⟩ | exact ⟨rfl, _, Eq.trans (World.drewN_drewN _ _ _) (congrArg (World.drewN _) (Nat.add_assoc _ _ _))⟩)))
       repeat (go_quiet (first | (go_at_call 103; (with_reducible refine (bits_LeadingZeros64.calls a2 t713 _ A7.out).mono ?_); rintro e w' ⟨rfl, ⟨nd, rfl⟩⟩; (try first | exact ⟨rfl, _, World.drewN_drewN _ _ _⟩ | exact ⟨rfl, _, Eq.trans (World.drewN_drewN _ _ _) (congrArg (World.drewN _) (Nat.add_assoc _ _ _))⟩))); go_upto_block 0 with (first | (go_at_call 103; (with_reducible refine (bits_LeadingZeros64.calls a2 t713 _ A7.out).mono ?_); rintro e w' ⟨rfl, ⟨nd, rfl⟩⟩; (try first | exact ⟨rfl, _, World.drewN_drewN _ _ _⟩ | exact ⟨rfl, _, Eq.trans (World.drewN_drewN _ _ _) (congrArg (World.drewN _) (Nat.add_assoc _ _ _))⟩))))
       (try simp only [Act.put, List.setIfInBounds_toArray, List.set_cons_zero, List.set_cons_succ])
       go_cut [15] (fun v15 wc => ∃ (kq : Nat) (x15_18 : Int), v15 = .int .u64 x15_18 ∧ Aside0 (bits_Div64.j2 kq ji10 ji8 ((ji10) / 4294967296) (Go.bits .and .u64 (ji10) 4294967295) (Go.bits .or .u64 (ji12) (ji15)) ((ji17) / 4294967296) (Go.bits .and .u64 (ji17) 4294967295) x15_18 = some (r1, r2)) ∧ Aside0 (kq ≤ k) ∧ Drawn0 w wc)
       case first =>
        have H := HC19.out
        clear HC19
        have H' := Aside0.mk H
        clear H
        go_wp2
        repeat (go_quiet (fail); try go_wp2)
        go_loopg [15, 16] k (fun kq v15 v16 w' => ∃ (x15_1 : Int) (x16_1 : Int), v15 = .int .u64 x15_1 ∧ v16 = .int .u64 x16_1 ∧ Aside0 (bits_Div64.l0 kq ji10 ji8 ((ji10) / 4294967296) (Go.bits .and .u64 (ji10) 4294967295) (Go.bits .or .u64 (ji12) (ji15)) ((ji17) / 4294967296) (Go.bits .and .u64 (ji17) 4294967295) x15_1 x16_1 = some (r1, r2)) ∧ Aside0 (kq ≤ k) ∧ Drawn0 w w')
        case atStart => exact ⟨(IntKind.u64.wrap (Int.tdiv (Go.bits .or .u64 (ji12) (ji15)) ((ji10) / 4294967296))), (IntKind.u64.wrap ((Go.bits .or .u64 (ji12) (ji15)) - (IntKind.u64.wrap ((IntKind.u64.wrap (Int.tdiv (Go.bits .or .u64 (ji12) (ji15)) ((ji10) / 4294967296))) * ((ji10) / 4294967296))))), (by first | rfl | (simp; done) | (simp only [← hji10, ← hji12, ← hji15] <;> (first | rfl | simp)) | (simp [*]; done)), (by first | rfl | (simp; done) | (simp only [← hji10, ← hji12, ← hji15] <;> (first | rfl | simp)) | (simp [*]; done)), H', ⟨Nat.le_refl _⟩, by repeat (first | exact Drawn0.refl _ | apply Drawn0.step)⟩
        case round =>
         clear H'
         try clear c1
         try clear p2
         try clear c4
         try clear c4b0
         try clear c4b1
         try clear c5
         try clear c5b0
         try clear c6
         try clear c6b0
         try clear c6b1
         try clear c9
         try clear c9b0
         try clear c9b1
         try clear c10
         try clear c11
         try clear c11b0
         try clear c14
         try clear c14b0
         try clear c14b1
         try clear c16
         try clear c16b0
         try clear c18
         try clear c18b0
         try clear c18b1
         obtain ⟨x15_1, x16_1, rfl, rfl, HA, HK1, ⟨m1, rfl⟩⟩ := hrel
         cases gk with
         | zero => exact absurd HA.out (by simp [bits_Div64.l0])
         | succ k1 =>
          have H := HA.out
          clear HA
          simp only [bits_Div64.l0] at H
          have HC20 := Aside0.mk H
          clear H
          go_upto_region 17 with (fail)
          repeat (go_quiet (fail); go_upto_region 17 with (fail))
          go_cut [78] (fun v78 wc => ∃ (kq : Nat) (x78_19 : Bool), v78 = .bool x78_19 ∧ Aside0 (bits_Div64.j1 kq ji10 ji8 ((ji10) / 4294967296) (Go.bits .and .u64 (ji10) 4294967295) (Go.bits .or .u64 (ji12) (ji15)) ((ji17) / 4294967296) (Go.bits .and .u64 (ji17) 4294967295) x15_1 x16_1 x78_19 = some (r1, r2)) ∧ Aside0 (kq ≤ k1) ∧ Drawn0 w wc)
          case first =>
           have H := HC20.out
           clear HC20
           by_cases c21 : x15_1 ≥ 4294967296
           ·rw [if_pos c21] at H
            have c21b0 : decide (4294967296 ≤ x15_1) = true := decide_eq_true c21
            clear c21
            (first | rw [c21b0] | (simp only [i64_w, i32_w]; rw [c21b0]) | skip)
            have H' := Aside0.mk H
            clear H
            go_wp2
            repeat (go_quiet (fail); try go_wp2)
            go_meet
            case rel => exact ⟨_, (true), (by first | rfl | (simp; done) | (simp [*]; done)), H', ⟨by have := HK1.out; first | omega | exact Nat.le_refl _⟩, by repeat (first | exact Drawn0.refl _ | apply Drawn0.step)⟩
           ·rw [if_neg c21] at H
            have c21b0 : decide (4294967296 ≤ x15_1) = false := decide_eq_false c21
            clear c21
            (first | rw [c21b0] | (simp only [i64_w, i32_w]; rw [c21b0]) | skip)
            have H' := Aside0.mk H
            clear H
            go_wp2
            repeat (go_quiet (fail); try go_wp2)
            go_meet
            case rel => exact ⟨_, (decide ((IntKind.u64.wrap (x15_1 * (Go.bits .and .u64 (ji10) 4294967295))) > (IntKind.u64.wrap ((IntKind.u64.wrap (4294967296 * x16_1)) + ((ji17) / 4294967296))))), (by first | rfl | (simp; done) | (simp only [← hji10, ← hji17] <;> (first | rfl | simp)) | (simp [*]; done)), H', ⟨by have := HK1.out; first | omega | exact Nat.le_refl _⟩, by repeat (first | exact Drawn0.refl _ | apply Drawn0.step)⟩
          case rest =>
           clear HC20
           try clear c1
           try clear c2
           try clear p2
           try clear c4
           try clear c4b0
           try clear c4b1
           try clear c5
           try clear c5b0
           try clear c6
           try clear c6b0
           try clear c6b1
           try clear c9
           try clear c9b0
           try clear c9b1
           try clear c10
           try clear c11
           try clear c11b0
           try clear c14
           try clear c14b0
           try clear c14b1
           try clear c16
           try clear c16b0
           try clear c18
           try clear c18b0
           try clear c18b1
           try clear c21
           try clear c21b0
           try clear p2
           obtain ⟨kq, x78_19, rfl, HA, HJ19, ⟨mc19, rfl⟩⟩ := hcut
           cases kq with
           | zero => exact absurd HA.out (by simp [bits_Div64.j1])
           | succ kj19 =>
            have H := HA.out
            clear HA
            simp only [bits_Div64.j1] at H
            by_cases c22 : x78_19 = true
            ·subst c22
             have H1 : (if (IntKind.u64.wrap (x16_1 + ((ji10) / 4294967296))) ≥ 4294967296 then (bits_Div64.j2 kj19 ji10 ji8 ((ji10) / 4294967296) (Go.bits .and .u64 (ji10) 4294967295) (Go.bits .or .u64 (ji12) (ji15)) ((ji17) / 4294967296) (Go.bits .and .u64 (ji17) 4294967295) (IntKind.u64.wrap (x15_1 - 1))) else (bits_Div64.l0 kj19 ji10 ji8 ((ji10) / 4294967296) (Go.bits .and .u64 (ji10) 4294967295) (Go.bits .or .u64 (ji12) (ji15)) ((ji17) / 4294967296) (Go.bits .and .u64 (ji17) 4294967295) (IntKind.u64.wrap (x15_1 - 1)) (IntKind.u64.wrap (x16_1 + ((ji10) / 4294967296))))) = some (r1, r2) := by rw [if_pos rfl] at H; exact H
             clear H
             have H := H1
             clear H1
             by_cases c23 : (IntKind.u64.wrap (x16_1 + ((ji10) / 4294967296))) ≥ 4294967296
             ·rw [if_pos c23] at H
              have c23b0 : decide (4294967296 ≤ (IntKind.u64.wrap (x16_1 + ((ji10) / 4294967296)))) = true := decide_eq_true c23
              clear c23
              have H' := Aside0.mk H
              clear H
              go_wp2
              repeat (go_quiet (fail); try go_wp2)
              go_meet
              case rel => exact ⟨_, (IntKind.u64.wrap (x15_1 - 1)), (by first | rfl | (simp; done) | (simp [*]; done)), H', ⟨by have := HK1.out; have := HJ19.out; first | omega | exact Nat.le_refl _⟩, by repeat (first | exact Drawn0.refl _ | apply Drawn0.step)⟩
             ·rw [if_neg c23] at H
              have c23b0 : decide (4294967296 ≤ (IntKind.u64.wrap (x16_1 + ((ji10) / 4294967296)))) = false := decide_eq_false c23
              clear c23
              have H' := Aside0.mk H
              clear H
              go_wp2
              repeat (go_quiet (fail); try go_wp2)
              go_roundg kj19
              case measure => have := HK1.out; have := HJ19.out; omega
              case rel => exact ⟨(IntKind.u64.wrap (x15_1 - 1)), (IntKind.u64.wrap (x16_1 + ((ji10) / 4294967296))), (by first | rfl | (simp; done) | (simp [*]; done)), (by first | rfl | (simp; done) | (simp only [← hji10] <;> (first | rfl | simp)) | (simp [*]; done)), H', ⟨by have := HK1.out; have := HJ19.out; omega⟩, by repeat (first | exact Drawn0.refl _ | apply Drawn0.step)⟩
            ·replace c22 := Bool.eq_false_iff.mpr c22
             subst c22
             have H1 : (bits_Div64.j2 kj19 ji10 ji8 ((ji10) / 4294967296) (Go.bits .and .u64 (ji10) 4294967295) (Go.bits .or .u64 (ji12) (ji15)) ((ji17) / 4294967296) (Go.bits .and .u64 (ji17) 4294967295) x15_1) = some (r1, r2) := by rw [if_neg (show ¬ (false = true) by decide)] at H; exact H
             clear H
             have H := H1
             clear H1
             have H' := Aside0.mk H
             clear H
             go_wp2
             repeat (go_quiet (fail); try go_wp2)
             go_meet
             case rel => exact ⟨_, (x15_1), (by first | rfl | (simp; done) | (simp [*]; done)), H', ⟨by have := HK1.out; have := HJ19.out; first | omega | exact Nat.le_refl _⟩, by repeat (first | exact Drawn0.refl _ | apply Drawn0.step)⟩
       case rest =>
        clear HC19
        try clear c1
        try clear c2
        try clear p2
        try clear c4
        try clear c4b0
        try clear c4b1
        try clear c5
        try clear c5b0
        try clear c6
        try clear c6b0
        try clear c6b1
        try clear c9
        try clear c9b0
        try clear c9b1
        try clear c10
        try clear c11
        try clear c11b0
        try clear c14
        try clear c14b0
        try clear c14b1
        try clear c16
        try clear c16b0
        try clear c18
        try clear c18b0
        try clear c18b1
        try clear c19
        try clear c21
        try clear c21b0
        try clear c22
        try clear c23
        try clear c23b0
        try clear p2
        obtain ⟨kq, x15_18, rfl, HA, HJ18, ⟨mc18, rfl⟩⟩ := hcut
        cases kq with
        | zero => exact absurd HA.out (by simp [bits_Div64.j2])
        | succ kj18 =>
         have H := HA.out
         clear HA
         simp only [bits_Div64.j2] at H
         by_cases c24 : ((ji10) / 4294967296) = 0
         ·rw [if_pos c24] at H
          exact absurd H (by simp)
         ·rw [if_neg c24] at H
          have c24b0 : (((ji10) / 4294967296) == 0) = false := beq_eq_false_iff_ne.mpr c24
          have c24b1 : (((ji10) / 4294967296) != 0) = true := bne_iff_ne.mpr c24
          have H' := Aside0.mk H
          clear H
          go_wp2
          repeat (go_quiet (fail); try go_wp2)
          go_loopg [16, 18] kj18 (fun kq v16 v18 w' => ∃ (x16_2 : Int) (x18_2 : Int), v16 = .int .u64 x16_2 ∧ v18 = .int .u64 x18_2 ∧ Aside0 (bits_Div64.l1 kq ji10 ji8 ((ji10) / 4294967296) (Go.bits .and .u64 (ji10) 4294967295) (Go.bits .and .u64 (ji17) 4294967295) x15_18 x16_2 (IntKind.u64.wrap ((IntKind.u64.wrap ((IntKind.u64.wrap ((Go.bits .or .u64 (ji12) (ji15)) * 4294967296)) + ((ji17) / 4294967296))) - (IntKind.u64.wrap (x15_18 * ji10)))) x18_2 = some (r1, r2)) ∧ Aside0 (kq ≤ kj18) ∧ Drawn0 w w')
          case atStart => exact ⟨(IntKind.u64.wrap ((IntKind.u64.wrap ((IntKind.u64.wrap ((IntKind.u64.wrap ((Go.bits .or .u64 (ji12) (ji15)) * 4294967296)) + ((ji17) / 4294967296))) - (IntKind.u64.wrap (x15_18 * ji10)))) - (IntKind.u64.wrap ((IntKind.u64.wrap (Int.tdiv (IntKind.u64.wrap ((IntKind.u64.wrap ((IntKind.u64.wrap ((Go.bits .or .u64 (ji12) (ji15)) * 4294967296)) + ((ji17) / 4294967296))) - (IntKind.u64.wrap (x15_18 * ji10)))) ((ji10) / 4294967296))) * ((ji10) / 4294967296))))), (IntKind.u64.wrap (Int.tdiv (IntKind.u64.wrap ((IntKind.u64.wrap ((IntKind.u64.wrap ((Go.bits .or .u64 (ji12) (ji15)) * 4294967296)) + ((ji17) / 4294967296))) - (IntKind.u64.wrap (x15_18 * ji10)))) ((ji10) / 4294967296))), (by first | rfl | (simp; done) | (simp only [← hji10, ← hji12, ← hji15, ← hji17] <;> (first | rfl | simp)) | (simp [*]; done)), (by first | rfl | (simp; done) | (simp only [← hji10, ← hji12, ← hji15, ← hji17] <;> (first | rfl | simp)) | (simp [*]; done)), H', ⟨Nat.le_refl _⟩, by repeat (first | exact Drawn0.refl _ | apply Drawn0.step)⟩
          case round =>
           clear H'
           try clear c1
           try clear c2
           try clear p2
           try clear c4
           try clear c4b0
           try clear c4b1
           try clear c5
           try clear c5b0
           try clear c6
           try clear c6b0
           try clear c6b1
           try clear c9
           try clear c9b0
           try clear c9b1
           try clear c10
           try clear c11
           try clear c11b0
           try clear c14
           try clear c14b0
           try clear c14b1
           try clear c16
           try clear c16b0
           try clear c18
           try clear c18b0
           try clear c18b1
           try clear c19
           try clear c21
           try clear c21b0
           try clear c22
           try clear c23
           try clear c23b0
           try clear c24
           try clear c24b0
           try clear c24b1
           try clear p2
           obtain ⟨x16_2, x18_2, rfl, rfl, HA, HK2, ⟨m2, rfl⟩⟩ := hrel
           cases gk with
           | zero => exact absurd HA.out (by simp [bits_Div64.l1])
           | succ k2 =>
            have H := HA.out
            clear HA
            simp only [bits_Div64.l1] at H
            have HC25 := Aside0.mk H
            clear H
            go_upto_region 24 with (fail)
            repeat (go_quiet (fail); go_upto_region 24 with (fail))
            go_cut [113] (fun v113 wc => ∃ (kq : Nat) (x113_24 : Bool), v113 = .bool x113_24 ∧ Aside0 (bits_Div64.j4 kq ji10 ji8 ((ji10) / 4294967296) (Go.bits .and .u64 (ji10) 4294967295) (Go.bits .and .u64 (ji17) 4294967295) x15_18 x16_2 (IntKind.u64.wrap ((IntKind.u64.wrap ((IntKind.u64.wrap ((Go.bits .or .u64 (ji12) (ji15)) * 4294967296)) + ((ji17) / 4294967296))) - (IntKind.u64.wrap (x15_18 * ji10)))) x18_2 x113_24 = some (r1, r2)) ∧ Aside0 (kq ≤ k2) ∧ Drawn0 w wc)
            case first =>
             have H := HC25.out
             clear HC25
             by_cases c26 : x18_2 ≥ 4294967296
             ·rw [if_pos c26] at H
              have c26b0 : decide (4294967296 ≤ x18_2) = true := decide_eq_true c26
              clear c26
              (first | rw [c26b0] | (simp only [i64_w, i32_w]; rw [c26b0]) | skip)
              have H' := Aside0.mk H
              clear H
              go_wp2
              repeat (go_quiet (fail); try go_wp2)
              go_meet
              case rel => exact ⟨_, (true), (by first | rfl | (simp; done) | (simp [*]; done)), H', ⟨by have := HJ18.out; have := HK2.out; first | omega | exact Nat.le_refl _⟩, by repeat (first | exact Drawn0.refl _ | apply Drawn0.step)⟩
             ·rw [if_neg c26] at H
              have c26b0 : decide (4294967296 ≤ x18_2) = false := decide_eq_false c26
              clear c26
              (first | rw [c26b0] | (simp only [i64_w, i32_w]; rw [c26b0]) | skip)
              have H' := Aside0.mk H
              clear H
              go_wp2
              repeat (go_quiet (fail); try go_wp2)
              go_meet
              case rel => exact ⟨_, (decide ((IntKind.u64.wrap (x18_2 * (Go.bits .and .u64 (ji10) 4294967295))) > (IntKind.u64.wrap ((IntKind.u64.wrap (4294967296 * x16_2)) + (Go.bits .and .u64 (ji17) 4294967295))))), (by first | rfl | (simp; done) | (simp only [← hji10, ← hji17] <;> (first | rfl | simp)) | (simp [*]; done)), H', ⟨by have := HJ18.out; have := HK2.out; first | omega | exact Nat.le_refl _⟩, by repeat (first | exact Drawn0.refl _ | apply Drawn0.step)⟩
            case rest =>
             clear HC25
             try clear c1
             try clear c2
             try clear p2
             try clear c4
             try clear c4b0
             try clear c4b1
             try clear c5
             try clear c5b0
             try clear c6
             try clear c6b0
             try clear c6b1
             try clear c9
             try clear c9b0
             try clear c9b1
             try clear c10
             try clear c11
             try clear c11b0
             try clear c14
             try clear c14b0
             try clear c14b1
             try clear c16
             try clear c16b0
             try clear c18
             try clear c18b0
             try clear c18b1
             try clear c19
             try clear c21
             try clear c21b0
             try clear c22
             try clear c23
             try clear c23b0
             try clear c24
             try clear c24b0
             try clear c24b1
             try clear c26
             try clear c26b0
             try clear p2
             obtain ⟨kq, x113_24, rfl, HA, HJ24, ⟨mc24, rfl⟩⟩ := hcut
             cases kq with
             | zero => exact absurd HA.out (by simp [bits_Div64.j4])
             | succ kj24 =>
              have H := HA.out
              clear HA
              simp only [bits_Div64.j4] at H
              by_cases c27 : x113_24 = true
              ·subst c27
               have H1 : (if (IntKind.u64.wrap (x16_2 + ((ji10) / 4294967296))) ≥ 4294967296 then (if 0 ≤ ji8 then (some (IntKind.u64.wrap ((IntKind.u64.wrap (x15_18 * 4294967296)) + (IntKind.u64.wrap (x18_2 - 1))), shr .u64 (IntKind.u64.wrap ((IntKind.u64.wrap ((IntKind.u64.wrap ((IntKind.u64.wrap ((IntKind.u64.wrap ((IntKind.u64.wrap ((Go.bits .or .u64 (ji12) (ji15)) * 4294967296)) + ((ji17) / 4294967296))) - (IntKind.u64.wrap (x15_18 * ji10)))) * 4294967296)) + (Go.bits .and .u64 (ji17) 4294967295))) - (IntKind.u64.wrap ((IntKind.u64.wrap (x18_2 - 1)) * ji10)))) ji8)) else (none)) else (bits_Div64.l1 kj24 ji10 ji8 ((ji10) / 4294967296) (Go.bits .and .u64 (ji10) 4294967295) (Go.bits .and .u64 (ji17) 4294967295) x15_18 (IntKind.u64.wrap (x16_2 + ((ji10) / 4294967296))) (IntKind.u64.wrap ((IntKind.u64.wrap ((IntKind.u64.wrap ((Go.bits .or .u64 (ji12) (ji15)) * 4294967296)) + ((ji17) / 4294967296))) - (IntKind.u64.wrap (x15_18 * ji10)))) (IntKind.u64.wrap (x18_2 - 1)))) = some (r1, r2) := by rw [if_pos rfl] at H; exact H
               clear H
               have H := H1
               clear H1
               by_cases c28 : (IntKind.u64.wrap (x16_2 + ((ji10) / 4294967296))) ≥ 4294967296
               ·rw [if_pos c28] at H
                have c28b0 : decide (4294967296 ≤ (IntKind.u64.wrap (x16_2 + ((ji10) / 4294967296)))) = true := decide_eq_true c28
                clear c28
                by_cases c29 : 0 ≤ ji8
                ·rw [if_pos c29] at H
                 have c29b0 := eq_true c29
                 have c29b1 : decide (0 ≤ ji8) = true := decide_eq_true c29
                 clear c29
                 obtain ⟨ji30, hji30⟩ : ∃ j_ : Int, (shr .u64 (IntKind.u64.wrap ((IntKind.u64.wrap ((IntKind.u64.wrap ((IntKind.u64.wrap ((IntKind.u64.wrap ((IntKind.u64.wrap ((Go.bits .or .u64 (ji12) (ji15)) * 4294967296)) + ((ji17) / 4294967296))) - (IntKind.u64.wrap (x15_18 * ji10)))) * 4294967296)) + (Go.bits .and .u64 (ji17) 4294967295))) - (IntKind.u64.wrap ((IntKind.u64.wrap (x18_2 - 1)) * ji10)))) ji8) = j_ := ⟨_, rfl⟩
                 replace H : (some (IntKind.u64.wrap ((IntKind.u64.wrap (x15_18 * 4294967296)) + (IntKind.u64.wrap (x18_2 - 1))), ji30)) = some (r1, r2) := by first | (rw [hji30] at H; exact H) | (simp only [hji30] at H ⊢; exact H)
                 have hji30_ : ((IntKind.u64.wrap ((IntKind.u64.wrap ((IntKind.u64.wrap ((IntKind.u64.wrap ((IntKind.u64.wrap ((IntKind.u64.wrap ((Go.bits .or .u64 (ji12) (ji15)) * 4294967296)) + ((ji17) / 4294967296))) - (IntKind.u64.wrap (x15_18 * ji10)))) * 4294967296)) + (Go.bits .and .u64 (ji17) 4294967295))) - (IntKind.u64.wrap ((IntKind.u64.wrap (x18_2 - 1)) * ji10)))) / 2 ^ min ji8.toNat 64) = ji30 := hji30
                 have hji30z : ji8 ≤ 64 → ((IntKind.u64.wrap ((IntKind.u64.wrap ((IntKind.u64.wrap ((IntKind.u64.wrap ((IntKind.u64.wrap ((IntKind.u64.wrap ((Go.bits .or .u64 (ji12) (ji15)) * 4294967296)) + ((ji17) / 4294967296))) - (IntKind.u64.wrap (x15_18 * ji10)))) * 4294967296)) + (Go.bits .and .u64 (ji17) 4294967295))) - (IntKind.u64.wrap ((IntKind.u64.wrap (x18_2 - 1)) * ji10)))) / 2 ^ ji8.toNat) = ji30 := shr_small hji30
                 simp only [Option.some.injEq, Prod.mk.injEq] at H
                 obtain ⟨rfl, rfl⟩ := H
                 go_wp2
                 repeat (go_quiet (fail); try go_wp2)
                 go_ret2
                 exact ⟨by first | rfl | (simp; done) | (simp only [← hji8, ← hji10, ← hji12, ← hji13, ← hji15, ← hji17, ← hji30] <;> (first | rfl | simp)) | (simp [*]; done), by repeat (first | exact Drawn0.refl _ | apply Drawn0.step)⟩
                ·rw [if_neg c29] at H
                 exact absurd H (by simp)
               ·rw [if_neg c28] at H
                have c28b0 : decide (4294967296 ≤ (IntKind.u64.wrap (x16_2 + ((ji10) / 4294967296)))) = false := decide_eq_false c28
                clear c28
                have H' := Aside0.mk H
                clear H
                go_wp2
                repeat (go_quiet (fail); try go_wp2)
                go_roundg kj24
                case measure => have := HJ18.out; have := HK2.out; have := HJ24.out; omega
                case rel => exact ⟨(IntKind.u64.wrap (x16_2 + ((ji10) / 4294967296))), (IntKind.u64.wrap (x18_2 - 1)), (by first | rfl | (simp; done) | (simp only [← hji10] <;> (first | rfl | simp)) | (simp [*]; done)), (by first | rfl | (simp; done) | (simp [*]; done)), H', ⟨by have := HJ18.out; have := HK2.out; have := HJ24.out; omega⟩, by repeat (first | exact Drawn0.refl _ | apply Drawn0.step)⟩
              ·replace c27 := Bool.eq_false_iff.mpr c27
               subst c27
               have H1 : (if 0 ≤ ji8 then (some (IntKind.u64.wrap ((IntKind.u64.wrap (x15_18 * 4294967296)) + x18_2), shr .u64 (IntKind.u64.wrap ((IntKind.u64.wrap ((IntKind.u64.wrap ((IntKind.u64.wrap ((IntKind.u64.wrap ((IntKind.u64.wrap ((Go.bits .or .u64 (ji12) (ji15)) * 4294967296)) + ((ji17) / 4294967296))) - (IntKind.u64.wrap (x15_18 * ji10)))) * 4294967296)) + (Go.bits .and .u64 (ji17) 4294967295))) - (IntKind.u64.wrap (x18_2 * ji10)))) ji8)) else (none)) = some (r1, r2) := by rw [if_neg (show ¬ (false = true) by decide)] at H; exact H
               clear H
               have H := H1
               clear H1
               by_cases c31 : 0 ≤ ji8
               ·rw [if_pos c31] at H
                have c31b0 := eq_true c31
                have c31b1 : decide (0 ≤ ji8) = true := decide_eq_true c31
                clear c31
                obtain ⟨ji32, hji32⟩ : ∃ j_ : Int, (shr .u64 (IntKind.u64.wrap ((IntKind.u64.wrap ((IntKind.u64.wrap ((IntKind.u64.wrap ((IntKind.u64.wrap ((IntKind.u64.wrap ((Go.bits .or .u64 (ji12) (ji15)) * 4294967296)) + ((ji17) / 4294967296))) - (IntKind.u64.wrap (x15_18 * ji10)))) * 4294967296)) + (Go.bits .and .u64 (ji17) 4294967295))) - (IntKind.u64.wrap (x18_2 * ji10)))) ji8) = j_ := ⟨_, rfl⟩
                replace H : (some (IntKind.u64.wrap ((IntKind.u64.wrap (x15_18 * 4294967296)) + x18_2), ji32)) = some (r1, r2) := by first | (rw [hji32] at H; exact H) | (simp only [hji32] at H ⊢; exact H)
                have hji32_ : ((IntKind.u64.wrap ((IntKind.u64.wrap ((IntKind.u64.wrap ((IntKind.u64.wrap ((IntKind.u64.wrap ((IntKind.u64.wrap ((Go.bits .or .u64 (ji12) (ji15)) * 4294967296)) + ((ji17) / 4294967296))) - (IntKind.u64.wrap (x15_18 * ji10)))) * 4294967296)) + (Go.bits .and .u64 (ji17) 4294967295))) - (IntKind.u64.wrap (x18_2 * ji10)))) / 2 ^ min ji8.toNat 64) = ji32 := hji32
                have hji32z : ji8 ≤ 64 → ((IntKind.u64.wrap ((IntKind.u64.wrap ((IntKind.u64.wrap ((IntKind.u64.wrap ((IntKind.u64.wrap ((IntKind.u64.wrap ((Go.bits .or .u64 (ji12) (ji15)) * 4294967296)) + ((ji17) / 4294967296))) - (IntKind.u64.wrap (x15_18 * ji10)))) * 4294967296)) + (Go.bits .and .u64 (ji17) 4294967295))) - (IntKind.u64.wrap (x18_2 * ji10)))) / 2 ^ ji8.toNat) = ji32 := shr_small hji32
                simp only [Option.some.injEq, Prod.mk.injEq] at H
                obtain ⟨rfl, rfl⟩ := H
                go_wp2
                repeat (go_quiet (fail); try go_wp2)
                go_ret2
                exact ⟨by first | rfl | (simp; done) | (simp only [← hji8, ← hji10, ← hji12, ← hji13, ← hji15, ← hji17, ← hji32] <;> (first | rfl | simp)) | (simp [*]; done), by repeat (first | exact Drawn0.refl _ | apply Drawn0.step)⟩
               ·rw [if_neg c31] at H
                exact absurd H (by simp)
     ·rw [if_neg c14] at H
      exact absurd H (by simp)
    ·rw [if_neg c9] at H
     exact absurd H (by simp)
end Go.Proofs.YtnjhjaifmgjljaaDoor.PM
end
