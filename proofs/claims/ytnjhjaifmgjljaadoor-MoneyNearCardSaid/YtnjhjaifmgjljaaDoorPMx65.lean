-- Written by a program of this session's (wip/tools/myprint.py): a function's plain form and its contract.
import Derived.Test.YtnjhjaifmgjljaaDoorPMx0
import Derived.Test.YtnjhjaifmgjljaaDoorPMx1
import Derived.Test.YtnjhjaifmgjljaaDoorPMx2
import Derived.Test.YtnjhjaifmgjljaaDoorPMx58
import Derived.Test.YtnjhjaifmgjljaaDoorPMx63
import Derived.Test.YtnjhjaifmgjljaaDoorPMx64
namespace Go.Proofs.YtnjhjaifmgjljaaDoor.PM
open Go.RowKit Go.Proofs.YtnjhjaifmgjljaaDoorW.PrintWords Go.Proofs.YtnjhjaifmgjljaaDoorW.PrintLast Go.Proofs.YtnjhjaifmgjljaaDoorW.PrintMore
attribute [local go_sem] max2_int min2_int max_two min_two max_three min_three max_four min_four   -- for this text's walks alone
set_option linter.unusedVariables false
set_option linter.unusedSimpArgs false

attribute [local go_sem high] eqA23
/-! ### levylaw1_MoneyNear: function 13 -/
mutual
def levylaw1_MoneyNear.l0 : Nat → Int → Int → Int → Int → Int → Int → Option (Bool)
 | 0, _, _, _, _, _, _ => none
 | k + 1, x0, x1, x2, x3, x9, x10 => if x10 ≤ 5 then ((levylaw1_c.f x0).bind fun bt733 => ((money_Scale.f k bt733.1 bt733.2 x1 x2 x10).bind fun bt735 => (if bt735.1 = 1 then ((levylaw1_c.f x0).bind fun bt738 => ((money_Scale.f k bt738.1 bt738.2 (wrap64 (x1 * x3)) (wrap64 (x2 * x3)) x10).bind fun bt740 => (levylaw1_MoneyNear.j1 k x0 x1 x2 x3 x9 x10 (!(bt735.1 == bt740.1) || (!(bt735.2 == bt740.2))) bt735.1 bt735.2))) else (levylaw1_MoneyNear.j1 k x0 x1 x2 x3 x9 x10 true bt735.1 bt735.2)))) else (some true)
def levylaw1_MoneyNear.j1 : Nat → Int → Int → Int → Int → Int → Int → Bool → Int → Int → Option (Bool)
 | 0, _, _, _, _, _, _, _, _, _ => none
 | k + 1, x0, x1, x2, x3, x9, x10, x59, x738000, x738001 => if x59 = true then (some false) else (if x10 = 1 then (if (wrap64 (x9 - (wrap64 (x738001 * x2)))) ≥ 0 then (if ((wrap64 (x9 - (wrap64 (x738001 * x2)))) < x2) then (levylaw1_MoneyNear.l0 k x0 x1 x2 x3 x9 (wrap64 (x10 + 1))) else (some false)) else (some false)) else (if x10 = 2 then (if (wrap64 (x9 - (wrap64 (x738001 * x2)))) ≤ 0 then (if ((wrap64 (x9 - (wrap64 (x738001 * x2)))) > (wrap64 (-x2))) then (levylaw1_MoneyNear.l0 k x0 x1 x2 x3 x9 (wrap64 (x10 + 1))) else (some false)) else (some false)) else (if x10 = 3 then (if (wrap64 (x9 - (wrap64 (x738001 * x2)))) > (wrap64 (-x2)) then (if (wrap64 (x9 - (wrap64 (x738001 * x2)))) < x2 then (if (wrap64 (x9 - (wrap64 (x738001 * x2)))) = 0 then (levylaw1_MoneyNear.l0 k x0 x1 x2 x3 x9 (wrap64 (x10 + 1))) else (if (((decide ((wrap64 (x9 - (wrap64 (x738001 * x2)))) > 0)) == (decide (x9 > 0))) = true) then (levylaw1_MoneyNear.l0 k x0 x1 x2 x3 x9 (wrap64 (x10 + 1))) else (some false))) else (some false)) else (some false)) else (if x10 = 4 then (if (wrap64 (2 * (wrap64 (x9 - (wrap64 (x738001 * x2)))))) < x2 then (if ((wrap64 (2 * (wrap64 (x9 - (wrap64 (x738001 * x2)))))) ≥ (wrap64 (-x2))) then (levylaw1_MoneyNear.l0 k x0 x1 x2 x3 x9 (wrap64 (x10 + 1))) else (some false)) else (some false)) else (if x10 = 5 then (if (wrap64 (2 * (wrap64 (x9 - (wrap64 (x738001 * x2)))))) ≤ x2 then (if (wrap64 (2 * (wrap64 (x9 - (wrap64 (x738001 * x2)))))) ≥ (wrap64 (-x2)) then (if (wrap64 (2 * (wrap64 (x9 - (wrap64 (x738001 * x2)))))) = x2 then (if ((Int.tmod x738001 2) = 0) then (levylaw1_MoneyNear.l0 k x0 x1 x2 x3 x9 (wrap64 (x10 + 1))) else (some false)) else (if (wrap64 (2 * (wrap64 (x9 - (wrap64 (x738001 * x2)))))) = (wrap64 (-x2)) then (if ((Int.tmod x738001 2) = 0) then (levylaw1_MoneyNear.l0 k x0 x1 x2 x3 x9 (wrap64 (x10 + 1))) else (some false)) else (levylaw1_MoneyNear.l0 k x0 x1 x2 x3 x9 (wrap64 (x10 + 1))))) else (some false)) else (some false)) else (some false))))))
end
def levylaw1_MoneyNear.f (k : Nat) (a0 : Int) (a1 : Int) (a2 : Int) (a3 : Int) : Option (Bool) := (levylaw1_known.f k).bind fun t732 => (if t732 = true then (levylaw1_MoneyNear.l0 k (Int.tmod a0 1000001) (Int.tmod a1 1000001) (wrap64 (1 + (Int.tmod (wrap64 ((Int.tmod a2 1000000) + 1000000)) 1000000))) (wrap64 (1 + (Int.tmod (wrap64 ((Int.tmod a3 900) + 900)) 900))) (wrap64 ((Int.tmod a0 1000001) * (Int.tmod a1 1000001))) 1) else (some false))
theorem levylaw1_MoneyNear.mono_l : ∀ k, (∀ y0 y1 y2 y3 y4 y5, LeO (levylaw1_MoneyNear.l0 k y0 y1 y2 y3 y4 y5) (levylaw1_MoneyNear.l0 (k + 1) y0 y1 y2 y3 y4 y5)) ∧ (∀ y0 y1 y2 y3 y4 y5 y6 y7 y8, LeO (levylaw1_MoneyNear.j1 k y0 y1 y2 y3 y4 y5 y6 y7 y8) (levylaw1_MoneyNear.j1 (k + 1) y0 y1 y2 y3 y4 y5 y6 y7 y8))
 | 0 => ⟨fun _ _ _ _ _ _ r h => by simp [levylaw1_MoneyNear.l0] at h, fun _ _ _ _ _ _ _ _ _ r h => by simp [levylaw1_MoneyNear.j1] at h⟩
 | k + 1 => by
  obtain ⟨ih0, ih1⟩ := levylaw1_MoneyNear.mono_l k
  refine ⟨?_, ?_⟩
  ·intro y0 y1 y2 y3 y4 y5
   unfold levylaw1_MoneyNear.l0
   repeat' first
   | (with_reducible exact ih0 _ _ _ _ _ _)
   | (with_reducible exact ih1 _ _ _ _ _ _ _ _ _)
   | (with_reducible exact levylaw1_known.mono _)
   | (with_reducible exact money_Scale.mono _ _ _ _ _ _)
   | (with_reducible exact LeO.refl _)
   | (with_reducible exact LeO.none _)
   | (with_reducible refine LeO.ite ?_ ?_)
   | (with_reducible refine LeO.bind ?_ (fun _ => ?_))
   | exact ih0 _ _ _ _ _ _
   | exact ih1 _ _ _ _ _ _ _ _ _
   | exact levylaw1_known.mono _
   | exact money_Scale.mono _ _ _ _ _ _
   | exact LeO.none _
   | refine LeO.ite ?_ ?_
   | refine LeO.bind ?_ (fun _ => ?_)
  ·intro y0 y1 y2 y3 y4 y5 y6 y7 y8
   unfold levylaw1_MoneyNear.j1
   repeat' first
   | (with_reducible exact ih0 _ _ _ _ _ _)
   | (with_reducible exact ih1 _ _ _ _ _ _ _ _ _)
   | (with_reducible exact levylaw1_known.mono _)
   | (with_reducible exact money_Scale.mono _ _ _ _ _ _)
   | (with_reducible exact LeO.refl _)
   | (with_reducible exact LeO.none _)
   | (with_reducible refine LeO.ite ?_ ?_)
   | (with_reducible refine LeO.bind ?_ (fun _ => ?_))
   | exact ih0 _ _ _ _ _ _
   | exact ih1 _ _ _ _ _ _ _ _ _
   | exact levylaw1_known.mono _
   | exact money_Scale.mono _ _ _ _ _ _
   | exact LeO.none _
   | refine LeO.ite ?_ ?_
   | refine LeO.bind ?_ (fun _ => ?_)
theorem levylaw1_MoneyNear.mono : ∀ a0 a1 a2 a3 k, LeO (levylaw1_MoneyNear.f k a0 a1 a2 a3) (levylaw1_MoneyNear.f (k + 1) a0 a1 a2 a3) := by
 intro a0 a1 a2 a3 k
 obtain ⟨ih0, ih1⟩ := levylaw1_MoneyNear.mono_l k
 unfold levylaw1_MoneyNear.f
 repeat' first
   | (with_reducible exact ih0 _ _ _ _ _ _)
   | (with_reducible exact ih1 _ _ _ _ _ _ _ _ _)
   | (with_reducible exact levylaw1_known.mono _)
   | (with_reducible exact money_Scale.mono _ _ _ _ _ _)
   | (with_reducible exact LeO.refl _)
   | (with_reducible exact LeO.none _)
   | (with_reducible refine LeO.ite ?_ ?_)
   | (with_reducible refine LeO.bind ?_ (fun _ => ?_))
   | exact ih0 _ _ _ _ _ _
   | exact ih1 _ _ _ _ _ _ _ _ _
   | exact levylaw1_known.mono _
   | exact money_Scale.mono _ _ _ _ _ _
   | exact LeO.none _
   | refine LeO.ite ?_ ?_
   | refine LeO.bind ?_ (fun _ => ?_)
def levylaw1_MoneyNear.T12 : Bool × List (List Nat × List Nat) := (true, [([], []), ([0], [0]), ([1], [1]), ([2], [2]), ([3], [3]), ([3], [3]), ([5, 3, 3], [3, 5]), ([3], [3]), ([3], [3]), ([7, 8, 3], [3, 7, 8]), ([3], [3]), ([3], [3]), ([10, 11, 3], [3, 10, 11]), ([3], [3]), ([6, 9, 12, 13, 6, 3], [3, 6, 9, 12, 13]), ([4, 14, 3], [3, 4, 14]), ([3, 15], [3, 15])])
def levylaw1_MoneyNear.B12 : List Nat := [0, 1, 3, 7, 15, 15, 47, 15, 15, 399, 15, 15, 3087, 15, 16367, 32767, 65535]
theorem levylaw1_MoneyNear.tab12 : rtab .any (opsOf Tryd.f13 12) = levylaw1_MoneyNear.T12 := by kernel_rfl
theorem levylaw1_MoneyNear.bits12 : waitsOk levylaw1_MoneyNear.T12.2 levylaw1_MoneyNear.B12 = true := by kernel_rfl
set_option maxHeartbeats 8000000 in
set_option maxRecDepth 100000 in
theorem levylaw1_MoneyNear.calls (k : Nat) (a0 : Int) (a1 : Int) (a2 : Int) (a3 : Int) (r : Bool) (w : World) (h : levylaw1_MoneyNear.f k a0 a1 a2 a3 = some r) (hg0 : Kd.C k87 w (some ⟨0, 0, none⟩) gtab0.length gtab0) :
  Calls Tryd.prog 13 #[.int .i64 a0, .int .i64 a1, .int .i64 a2, .int .i64 a3] w fun e w' => e = .returned (.bool r) ∧ Below w.heap.size w w' := by
 have HG0 := Aside0.mk hg0
 clear hg0
 have hu23 := Tryd.underlying23
 have HB := Aside0.mk (Below.refl w.heap.size w)
 have H : ((levylaw1_known.f k).bind fun t732 => (if t732 = true then (levylaw1_MoneyNear.l0 k (Int.tmod a0 1000001) (Int.tmod a1 1000001) (wrap64 (1 + (Int.tmod (wrap64 ((Int.tmod a2 1000000) + 1000000)) 1000000))) (wrap64 (1 + (Int.tmod (wrap64 ((Int.tmod a3 900) + 900)) 900))) (wrap64 ((Int.tmod a0 1000001) * (Int.tmod a1 1000001))) 1) else (some false))) = some r := h
 clear h
 replace H := Option.bind_eq_some_iff.mp H
 obtain ⟨t732, A50, H⟩ := H
 replace H : (if t732 = true then (levylaw1_MoneyNear.l0 k (Int.tmod a0 1000001) (Int.tmod a1 1000001) (wrap64 (1 + (Int.tmod (wrap64 ((Int.tmod a2 1000000) + 1000000)) 1000000))) (wrap64 (1 + (Int.tmod (wrap64 ((Int.tmod a3 900) + 900)) 900))) (wrap64 ((Int.tmod a0 1000001) * (Int.tmod a1 1000001))) 1) else (some false)) = some r := H
 have A5 := Aside0.mk A50
 clear A50
 by_cases c6 : t732 = true
 ·subst c6
  have H1 : (levylaw1_MoneyNear.l0 k (Int.tmod a0 1000001) (Int.tmod a1 1000001) (wrap64 (1 + (Int.tmod (wrap64 ((Int.tmod a2 1000000) + 1000000)) 1000000))) (wrap64 (1 + (Int.tmod (wrap64 ((Int.tmod a3 900) + 900)) 900))) (wrap64 ((Int.tmod a0 1000001) * (Int.tmod a1 1000001))) 1) = some r := by rw [if_pos rfl] at H; exact H
  clear H
  have H := H1
  clear H1
  have H' := Aside0.mk H
  clear H
  go_enter Tryd.func13, Tryd.ntmps13
  go_wp2_with (first | ((with_reducible refine gate_callee (f := 51) rfl ?_); refine goesL_ (some 14) rfl rfl Tryd.func51 (by kernel_rfl) rfl #[] rfl agx ?_; (with_reducible refine (levylaw1_known.calls k  true _ A5.out (by first | exact HG0.out | exact Kd.C_below HG0.out blx)).mono ?_); rintro e w7 ⟨rfl, hb⟩; refine ⟨_, rfl, ?_⟩; have n0_ := Aside0.mk (below_step blx hb); clear HB; have HB := n0_; clear n0_; (try clear hb); (try clear hb2); (try clear hk); (try clear hi)))
  go_loopg [10] k (fun kq v10 w' => ∃ (x10_1 : Int), v10 = .int .i64 x10_1 ∧ Aside0 (levylaw1_MoneyNear.l0 kq (Int.tmod a0 1000001) (Int.tmod a1 1000001) (wrap64 (1 + (Int.tmod (wrap64 ((Int.tmod a2 1000000) + 1000000)) 1000000))) (wrap64 (1 + (Int.tmod (wrap64 ((Int.tmod a3 900) + 900)) 900))) (wrap64 ((Int.tmod a0 1000001) * (Int.tmod a1 1000001))) x10_1 = some r) ∧ Aside0 (kq ≤ k) ∧ Aside0 (Below w.heap.size w w'))
  case atStart => exact ⟨(1), (by first | rfl | (simp; done) | (simp [*]; done)), H', ⟨Nat.le_refl _⟩, ⟨blx⟩⟩
  case round =>
   clear H'
   try clear c1
   try clear p2
   try clear c5
   try clear c6
   try clear p6
   obtain ⟨x10_1, rfl, HA, HK1, HB⟩ := hrel
   cases gk with
   | zero => exact absurd HA.out (by simp [levylaw1_MoneyNear.l0])
   | succ k1 =>
    have H := HA.out
    clear HA
    simp only [levylaw1_MoneyNear.l0] at H
    by_cases c8 : x10_1 ≤ 5
    ·rw [if_pos c8] at H
     have c8b0 : decide (x10_1 ≤ 5) = true := decide_eq_true c8
     clear c8
     replace H := Option.bind_eq_some_iff.mp H
     obtain ⟨⟨t733, t734⟩, A90, H⟩ := H
     replace H : ((money_Scale.f k1 t733 t734 (Int.tmod a1 1000001) (wrap64 (1 + (Int.tmod (wrap64 ((Int.tmod a2 1000000) + 1000000)) 1000000))) x10_1).bind fun bt735 => (if bt735.1 = 1 then ((levylaw1_c.f (Int.tmod a0 1000001)).bind fun bt738 => ((money_Scale.f k1 bt738.1 bt738.2 (wrap64 ((Int.tmod a1 1000001) * (wrap64 (1 + (Int.tmod (wrap64 ((Int.tmod a3 900) + 900)) 900))))) (wrap64 ((wrap64 (1 + (Int.tmod (wrap64 ((Int.tmod a2 1000000) + 1000000)) 1000000))) * (wrap64 (1 + (Int.tmod (wrap64 ((Int.tmod a3 900) + 900)) 900))))) x10_1).bind fun bt740 => (levylaw1_MoneyNear.j1 k1 (Int.tmod a0 1000001) (Int.tmod a1 1000001) (wrap64 (1 + (Int.tmod (wrap64 ((Int.tmod a2 1000000) + 1000000)) 1000000))) (wrap64 (1 + (Int.tmod (wrap64 ((Int.tmod a3 900) + 900)) 900))) (wrap64 ((Int.tmod a0 1000001) * (Int.tmod a1 1000001))) x10_1 (!(bt735.1 == bt740.1) || (!(bt735.2 == bt740.2))) bt735.1 bt735.2))) else (levylaw1_MoneyNear.j1 k1 (Int.tmod a0 1000001) (Int.tmod a1 1000001) (wrap64 (1 + (Int.tmod (wrap64 ((Int.tmod a2 1000000) + 1000000)) 1000000))) (wrap64 (1 + (Int.tmod (wrap64 ((Int.tmod a3 900) + 900)) 900))) (wrap64 ((Int.tmod a0 1000001) * (Int.tmod a1 1000001))) x10_1 true bt735.1 bt735.2))) = some r := H
     have A9 := Aside0.mk A90
     clear A90
     replace H := Option.bind_eq_some_iff.mp H
     obtain ⟨⟨t735, t736⟩, A100, H⟩ := H
     replace H : (if t735 = 1 then ((levylaw1_c.f (Int.tmod a0 1000001)).bind fun bt738 => ((money_Scale.f k1 bt738.1 bt738.2 (wrap64 ((Int.tmod a1 1000001) * (wrap64 (1 + (Int.tmod (wrap64 ((Int.tmod a3 900) + 900)) 900))))) (wrap64 ((wrap64 (1 + (Int.tmod (wrap64 ((Int.tmod a2 1000000) + 1000000)) 1000000))) * (wrap64 (1 + (Int.tmod (wrap64 ((Int.tmod a3 900) + 900)) 900))))) x10_1).bind fun bt740 => (levylaw1_MoneyNear.j1 k1 (Int.tmod a0 1000001) (Int.tmod a1 1000001) (wrap64 (1 + (Int.tmod (wrap64 ((Int.tmod a2 1000000) + 1000000)) 1000000))) (wrap64 (1 + (Int.tmod (wrap64 ((Int.tmod a3 900) + 900)) 900))) (wrap64 ((Int.tmod a0 1000001) * (Int.tmod a1 1000001))) x10_1 (!(t735 == bt740.1) || (!(t736 == bt740.2))) t735 t736))) else (levylaw1_MoneyNear.j1 k1 (Int.tmod a0 1000001) (Int.tmod a1 1000001) (wrap64 (1 + (Int.tmod (wrap64 ((Int.tmod a2 1000000) + 1000000)) 1000000))) (wrap64 (1 + (Int.tmod (wrap64 ((Int.tmod a3 900) + 900)) 900))) (wrap64 ((Int.tmod a0 1000001) * (Int.tmod a1 1000001))) x10_1 true t735 t736)) = some r := H
     have A10 := Aside0.mk A100
     clear A100
     have HC11 := Aside0.mk H
     clear H
     go_upto_region 12 with (first | ((with_reducible refine gate_callee (f := 52) rfl ?_); refine goesL_ (some 38) rfl rfl Tryd.func52 (by kernel_rfl) rfl #[.int .i64 (Int.tmod a0 1000001)] rfl agx ?_; (with_reducible refine (levylaw1_c.calls (Int.tmod a0 1000001) t733 t734 _ A9.out).mono ?_); rintro e w12 ⟨rfl, hb⟩; refine ⟨_, rfl, ?_⟩; have n0_ := Aside0.mk (below_step blx hb); clear HB; have HB := n0_; clear n0_; (try clear hb); (try clear hb2); (try clear hk); (try clear hi)) | ((with_reducible refine gate_callee (f := 49) rfl ?_); refine goesL_ (some 42) rfl rfl Tryd.func49 (by kernel_rfl) rfl #[.agg #[.int .i64 t733, .int .i64 t734], .int .i64 (Int.tmod a1 1000001), .int .i64 (wrap64 (1 + (Int.tmod (wrap64 ((Int.tmod a2 1000000) + 1000000)) 1000000))), .int .i64 x10_1] rfl agx ?_; (with_reducible refine (money_Scale.calls k1 t733 t734 (Int.tmod a1 1000001) (wrap64 (1 + (Int.tmod (wrap64 ((Int.tmod a2 1000000) + 1000000)) 1000000))) x10_1 t735 t736 _ A10.out (by first | exact HG0.out | exact Kd.C_below HG0.out blx)).mono ?_); rintro e w13 ⟨rfl, hb⟩; refine ⟨_, rfl, ?_⟩; have n0_ := Aside0.mk (below_step blx hb); clear HB; have HB := n0_; clear n0_; (try clear hb); (try clear hb2); (try clear hk); (try clear hi)) | ((with_reducible refine gate_dst (N := 11) rfl ?_); refine box_event ?hg (N := 11) ?hd (cs := #[.int .i64 0, .int .i64 0]) (t := 23) ?hr ?_; (case hd => rfl); (case hg => rfl); (case hr => first | (go_simp; done) | (go_simp; rfl)); intro gb737 hg w14 hbox hb; have n0_ := Aside0.mk (below_step blx hb); have n1_ := Aside0.mk (hbox); have n2_ := Aside0.mk ((by rw [hg]; exact (below_size blx) : w.heap.size ≤ gb737)); have n3_ := Aside0.mk ((by rw [hg]; exact (below_size blx) : w.heap.size ≤ gb737)); clear HB; have HB := n0_; have BK737 := n1_; have GW737 := n2_; have GE737 := n3_; clear n0_ n1_ n2_ n3_; clear hb hbox hg; have hcz15_0 : w14.cell? ⟨gb737, 0, none⟩ = some (.int .i64 0) := (blk_cell BK737.out 0).trans rfl; have hcz15_1 : w14.cell? ⟨gb737, 1, none⟩ = some (.int .i64 0) := (blk_cell BK737.out 1).trans rfl; have hfz15_0 := blk_frozen BK737.out 0; have hfz15_1 := blk_frozen BK737.out 1))
     (try simp only [Act.put, List.setIfInBounds_toArray, List.set_cons_zero, List.set_cons_succ])
     go_cut [59] (fun v59 wc => ∃ (kq : Nat) (x59_10 : Bool), v59 = .bool x59_10 ∧ Aside0 (levylaw1_MoneyNear.j1 kq (Int.tmod a0 1000001) (Int.tmod a1 1000001) (wrap64 (1 + (Int.tmod (wrap64 ((Int.tmod a2 1000000) + 1000000)) 1000000))) (wrap64 (1 + (Int.tmod (wrap64 ((Int.tmod a3 900) + 900)) 900))) (wrap64 ((Int.tmod a0 1000001) * (Int.tmod a1 1000001))) x10_1 x59_10 t735 t736 = some r) ∧ Aside0 (kq ≤ k1) ∧ Aside0 (wc.heap[gb737]? = some (.cells #[.int .i64 t735, .int .i64 t736] 23 (0, 0))) ∧ Aside0 (Below w.heap.size w wc))
     case first =>
      have H := HC11.out
      clear HC11
      by_cases c16 : t735 = 1
      ·rw [if_pos c16] at H
       have c16b0 : (t735 == 1) = true := beq_iff_eq.mpr c16
       have c16b1 : (t735 != 1) = false := bne_eq_false_iff_eq.mpr c16
       clear c16
       (first | rw [c16b0] | (simp only [i64_w, i32_w]; rw [c16b0]) | skip)
       replace H := Option.bind_eq_some_iff.mp H
       obtain ⟨⟨t738, t739⟩, A170, H⟩ := H
       replace H : ((money_Scale.f k1 t738 t739 (wrap64 ((Int.tmod a1 1000001) * (wrap64 (1 + (Int.tmod (wrap64 ((Int.tmod a3 900) + 900)) 900))))) (wrap64 ((wrap64 (1 + (Int.tmod (wrap64 ((Int.tmod a2 1000000) + 1000000)) 1000000))) * (wrap64 (1 + (Int.tmod (wrap64 ((Int.tmod a3 900) + 900)) 900))))) x10_1).bind fun bt740 => (levylaw1_MoneyNear.j1 k1 (Int.tmod a0 1000001) (Int.tmod a1 1000001) (wrap64 (1 + (Int.tmod (wrap64 ((Int.tmod a2 1000000) + 1000000)) 1000000))) (wrap64 (1 + (Int.tmod (wrap64 ((Int.tmod a3 900) + 900)) 900))) (wrap64 ((Int.tmod a0 1000001) * (Int.tmod a1 1000001))) x10_1 (!(t735 == bt740.1) || (!(t736 == bt740.2))) t735 t736)) = some r := H
       have A17 := Aside0.mk A170
       clear A170
       replace H := Option.bind_eq_some_iff.mp H
       obtain ⟨⟨t740, t741⟩, A180, H⟩ := H
       replace H : (levylaw1_MoneyNear.j1 k1 (Int.tmod a0 1000001) (Int.tmod a1 1000001) (wrap64 (1 + (Int.tmod (wrap64 ((Int.tmod a2 1000000) + 1000000)) 1000000))) (wrap64 (1 + (Int.tmod (wrap64 ((Int.tmod a3 900) + 900)) 900))) (wrap64 ((Int.tmod a0 1000001) * (Int.tmod a1 1000001))) x10_1 (!(t735 == t740) || (!(t736 == t741))) t735 t736) = some r := H
       have A18 := Aside0.mk A180
       clear A180
       have H' := Aside0.mk H
       clear H
       try go_wp2
       have n0_ : Aside0 (((w14.setCell ⟨gb737, 0, none⟩ (.int .i64 t735)).setCell ⟨gb737, 1, none⟩ (.int .i64 t736)).heap[gb737]? = some (.cells #[.int .i64 t735, .int .i64 t736] 23 (0, 0))) := ⟨by (with_reducible repeat (first | refine blk_drewN ?_ _ | refine blk_drew ?_ | refine blk_alloc ?_ _)); refine blk_put (cs := #[.int .i64 t735, .int .i64 0]) ?_ 1 _ rfl; (with_reducible repeat (first | refine blk_drewN ?_ _ | refine blk_drew ?_ | refine blk_alloc ?_ _)); refine blk_put (cs := #[.int .i64 0, .int .i64 0]) ?_ 0 _ rfl; (with_reducible repeat (first | refine blk_drewN ?_ _ | refine blk_drew ?_ | refine blk_alloc ?_ _)); exact BK737.out⟩
       have n1_ : Aside0 (Below w.heap.size w ((w14.setCell ⟨gb737, 0, none⟩ (.int .i64 t735)).setCell ⟨gb737, 1, none⟩ (.int .i64 t736))) := ⟨blx⟩
       (try clear BK737)
       (try clear HB)
       generalize ((w14.setCell ⟨gb737, 0, none⟩ (.int .i64 t735)).setCell ⟨gb737, 1, none⟩ (.int .i64 t736)) = w19 at n0_ n1_ ⊢
       have BK737 := n0_
       have HB := n1_
       clear n0_ n1_
       have n0_ := Aside0.mk (blk_drew BK737.out)
       have n1_ := Aside0.mk (below_drew1 HB.out)
       clear BK737
       clear HB
       have BK737 := n0_
       have HB := n1_
       clear n0_ n1_
       refine start_ (n := 17) (S := fun w' => w'.cell? ⟨gb737, 0, none⟩ = some (.int .i64 t735) ∧ w'.cell? ⟨gb737, 1, none⟩ = some (.int .i64 t736)) (ds := []) #[false, false, false, false, false, false, false, false, false, false, false, false, false, false, false, false, false] (by kernel_rfl) rfl rfl ⟨(blk_cell BK737.out 0).trans rfl, (blk_cell BK737.out 1).trans rfl⟩ (fun hHeld => ?_); refine with_tabW levylaw1_MoneyNear.tab12 levylaw1_MoneyNear.bits12 (fun HT_ HW_ => ?_)
       generalize w19.drew = w20 at BK737 HB hHeld ⊢
       refine pure_ (i := 0) (N := some 43) (v := ?_) (a' := ?_) #[true, false, false, false, false, false, false, false, false, false, false, false, false, false, false, false, false] rfl rfl (any_of HT_.out (by kernel_rfl)) (fun _ _ _ h => h) (Or.inl ⟨by rfl, ?_⟩) ?_ ?_
       rotate_left
       ·intro w'
        go_simp
        with_reducible rfl
       rotate_left
       ·simp only [Act.put, List.setIfInBounds_toArray, List.set_cons_zero, List.set_cons_succ, i64_w, i32_w]
        rfl
       refine take_ (i := 1) (N := some 44) (v := ?_) (a' := ?_) #[true, true, false, false, false, false, false, false, false, false, false, false, false, false, false, false, false] rfl rfl (take_ofW HT_.out HW_.out (by kernel_rfl)) (fun _ _ _ h => h) (Or.inl ⟨by rfl, ?_⟩) hHeld ?_ ?_
       rotate_left
       ·rintro w' ⟨s0, s1⟩
        go_simp
        with_reducible rfl
       rotate_left
       ·simp only [Act.put, List.setIfInBounds_toArray, List.set_cons_zero, List.set_cons_succ, i64_w, i32_w]
        rfl
       refine pure_ (i := 2) (N := some 45) (v := ?_) (a' := ?_) #[true, true, true, false, false, false, false, false, false, false, false, false, false, false, false, false, false] rfl rfl (any_of HT_.out (by kernel_rfl)) (fun _ _ _ h => h) (Or.inl ⟨by rfl, ?_⟩) ?_ ?_
       rotate_left
       ·intro w'
        go_simp
        with_reducible rfl
       rotate_left
       ·simp only [Act.put, List.setIfInBounds_toArray, List.set_cons_zero, List.set_cons_succ, i64_w, i32_w]
        rfl
       refine pure_ (i := 3) (N := some 46) (v := ?_) (a' := ?_) #[true, true, true, true, false, false, false, false, false, false, false, false, false, false, false, false, false] rfl rfl (any_of HT_.out (by kernel_rfl)) (fun _ _ _ h => h) (Or.inl ⟨by rfl, ?_⟩) ?_ ?_
       rotate_left
       ·intro w'
        go_simp
        with_reducible rfl
       rotate_left
       ·simp only [Act.put, List.setIfInBounds_toArray, List.set_cons_zero, List.set_cons_succ, i64_w, i32_w]
        rfl
       refine pure_ (i := 5) (N := some 48) (v := ?_) (a' := ?_) #[true, true, true, true, false, true, false, false, false, false, false, false, false, false, false, false, false] rfl rfl (any_of HT_.out (by kernel_rfl)) (fun _ _ _ h => h) (Or.inl ⟨by rfl, ?_⟩) ?_ ?_
       rotate_left
       ·intro w'
        go_simp
        with_reducible rfl
       rotate_left
       ·simp only [Act.put, List.setIfInBounds_toArray, List.set_cons_zero, List.set_cons_succ, i64_w, i32_w]
        rfl
       refine pure_ (i := 7) (N := some 50) (v := ?_) (a' := ?_) #[true, true, true, true, false, true, false, true, false, false, false, false, false, false, false, false, false] rfl rfl (any_of HT_.out (by kernel_rfl)) (fun _ _ _ h => h) (Or.inl ⟨by rfl, ?_⟩) ?_ ?_
       rotate_left
       ·intro w'
        go_simp
        with_reducible rfl
       rotate_left
       ·simp only [Act.put, List.setIfInBounds_toArray, List.set_cons_zero, List.set_cons_succ, i64_w, i32_w]
        rfl
       refine pure_ (i := 8) (N := some 51) (v := ?_) (a' := ?_) #[true, true, true, true, false, true, false, true, true, false, false, false, false, false, false, false, false] rfl rfl (any_of HT_.out (by kernel_rfl)) (fun _ _ _ h => h) (Or.inl ⟨by rfl, ?_⟩) ?_ ?_
       rotate_left
       ·intro w'
        go_simp
        with_reducible rfl
       rotate_left
       ·simp only [Act.put, List.setIfInBounds_toArray, List.set_cons_zero, List.set_cons_succ, i64_w, i32_w]
        rfl
       refine pure_ (i := 9) (N := some 52) (v := ?_) (a' := ?_) #[true, true, true, true, false, true, false, true, true, true, false, false, false, false, false, false, false] rfl rfl (any_of HT_.out (by kernel_rfl)) (fun _ _ _ h => h) (Or.inl ⟨by rfl, ?_⟩) ?_ ?_
       rotate_left
       ·intro w'
        go_simp
        with_reducible rfl
       rotate_left
       ·simp only [Act.put, List.setIfInBounds_toArray, List.set_cons_zero, List.set_cons_succ, i64_w, i32_w]
        rfl
       refine pure_ (i := 10) (N := some 53) (v := ?_) (a' := ?_) #[true, true, true, true, false, true, false, true, true, true, true, false, false, false, false, false, false] rfl rfl (any_of HT_.out (by kernel_rfl)) (fun _ _ _ h => h) (Or.inl ⟨by rfl, ?_⟩) ?_ ?_
       rotate_left
       ·intro w'
        go_simp
        with_reducible rfl
       rotate_left
       ·simp only [Act.put, List.setIfInBounds_toArray, List.set_cons_zero, List.set_cons_succ, i64_w, i32_w]
        rfl
       refine pure_ (i := 11) (N := some 54) (v := ?_) (a' := ?_) #[true, true, true, true, false, true, false, true, true, true, true, true, false, false, false, false, false] rfl rfl (any_of HT_.out (by kernel_rfl)) (fun _ _ _ h => h) (Or.inl ⟨by rfl, ?_⟩) ?_ ?_
       rotate_left
       ·intro w'
        go_simp
        with_reducible rfl
       rotate_left
       ·simp only [Act.put, List.setIfInBounds_toArray, List.set_cons_zero, List.set_cons_succ, i64_w, i32_w]
        rfl
       refine pure_ (i := 12) (N := some 55) (v := ?_) (a' := ?_) #[true, true, true, true, false, true, false, true, true, true, true, true, true, false, false, false, false] rfl rfl (any_of HT_.out (by kernel_rfl)) (fun _ _ _ h => h) (Or.inl ⟨by rfl, ?_⟩) ?_ ?_
       rotate_left
       ·intro w'
        go_simp
        with_reducible rfl
       rotate_left
       ·simp only [Act.put, List.setIfInBounds_toArray, List.set_cons_zero, List.set_cons_succ, i64_w, i32_w]
        rfl
       refine pure_ (i := 13) (N := some 56) (v := ?_) (a' := ?_) #[true, true, true, true, false, true, false, true, true, true, true, true, true, true, false, false, false] rfl rfl (any_of HT_.out (by kernel_rfl)) (fun _ _ _ h => h) (Or.inl ⟨by rfl, ?_⟩) ?_ ?_
       rotate_left
       ·intro w'
        go_simp
        with_reducible rfl
       rotate_left
       ·simp only [Act.put, List.setIfInBounds_toArray, List.set_cons_zero, List.set_cons_succ, i64_w, i32_w]
        rfl
       refine take_ (i := 4) (N := some 47) (v := ?_) (a' := ?_) #[true, true, true, true, true, true, false, true, true, true, true, true, true, true, false, false, false] rfl rfl (take_ofW HT_.out HW_.out (by kernel_rfl)) (fun _ _ _ h => h) (Or.inl ⟨by rfl, ?_⟩) hHeld ?_ ?_
       rotate_left
       ·rintro w' ⟨s0, s1⟩
        go_simp
        with_reducible rfl
       rotate_left
       ·simp only [Act.put, List.setIfInBounds_toArray, List.set_cons_zero, List.set_cons_succ, i64_w, i32_w]
        rfl
       refine one_ (i := 6) (N := some 49) #[true, true, true, true, true, true, true, true, true, true, true, true, true, true, false, false, false] rfl rfl (one_of HT_.out (by kernel_rfl)) (by decide) (fun K hK => ?_)
       refine goes_ Tryd.func52 (by kernel_rfl) rfl #[.int .i64 (Int.tmod a0 1000001)] (by rfl) rfl rfl agx ?_
       with_reducible refine (levylaw1_c.calls (Int.tmod a0 1000001) t738 t739 _ A17.out).mono ?_
       rintro e w21 ⟨rfl, hb⟩
       refine ⟨_, rfl, ?_⟩
       have n0_ := Aside0.mk (blk_below (g := gb737) (o := .cells #[.int .i64 t735, .int .i64 t736] 23 (0, 0)) bkx hb)
       have n1_ := Aside0.mk (below_step blx hb)
       clear BK737
       clear HB
       have BK737 := n0_
       have HB := n1_
       clear n0_ n1_
       (try clear hb)
       (try clear hb2)
       (try clear hk)
       (try clear hi)
       refine hK.out _ _ ⟨(blk_cell BK737.out 0).trans rfl, (blk_cell BK737.out 1).trans rfl⟩ (fun hHeld => ?_)
       clear hK K
       refine norm_ (a' := ?_) ?_ ?_
       rotate_left
       ·show Act.put _ (some 49) _ = _
        simp only [Act.put, List.setIfInBounds_toArray, List.set_cons_zero, List.set_cons_succ, i64_w, i32_w]
        rfl
       refine one_ (i := 14) (N := some 57) #[true, true, true, true, true, true, true, true, true, true, true, true, true, true, true, false, false] rfl rfl (one_of HT_.out (by kernel_rfl)) (by decide) (fun K hK => ?_)
       refine goes_ Tryd.func49 (by kernel_rfl) rfl #[.agg #[.int .i64 t738, .int .i64 t739], .int .i64 (wrap64 ((Int.tmod a1 1000001) * (wrap64 (1 + (Int.tmod (wrap64 ((Int.tmod a3 900) + 900)) 900))))), .int .i64 (wrap64 ((wrap64 (1 + (Int.tmod (wrap64 ((Int.tmod a2 1000000) + 1000000)) 1000000))) * (wrap64 (1 + (Int.tmod (wrap64 ((Int.tmod a3 900) + 900)) 900))))), .int .i64 x10_1] (by rfl) rfl rfl agx ?_
       with_reducible refine (money_Scale.calls k1 t738 t739 (wrap64 ((Int.tmod a1 1000001) * (wrap64 (1 + (Int.tmod (wrap64 ((Int.tmod a3 900) + 900)) 900))))) (wrap64 ((wrap64 (1 + (Int.tmod (wrap64 ((Int.tmod a2 1000000) + 1000000)) 1000000))) * (wrap64 (1 + (Int.tmod (wrap64 ((Int.tmod a3 900) + 900)) 900))))) x10_1 t740 t741 _ A18.out (by first | exact HG0.out | exact Kd.C_below HG0.out blx)).mono ?_
       rintro e w22 ⟨rfl, hb⟩
       refine ⟨_, rfl, ?_⟩
       have n0_ := Aside0.mk (blk_below (g := gb737) (o := .cells #[.int .i64 t735, .int .i64 t736] 23 (0, 0)) bkx hb)
       have n1_ := Aside0.mk (below_step blx hb)
       clear BK737
       clear HB
       have BK737 := n0_
       have HB := n1_
       clear n0_ n1_
       (try clear hb)
       (try clear hb2)
       (try clear hk)
       (try clear hi)
       refine hK.out _ _ ⟨(blk_cell BK737.out 0).trans rfl, (blk_cell BK737.out 1).trans rfl⟩ (fun hHeld => ?_)
       clear hK K
       refine norm_ (a' := ?_) ?_ ?_
       rotate_left
       ·show Act.put _ (some 57) _ = _
        simp only [Act.put, List.setIfInBounds_toArray, List.set_cons_zero, List.set_cons_succ, i64_w, i32_w]
        rfl
       refine pure_ (i := 15) (N := some 58) (v := ?_) (a' := ?_) #[true, true, true, true, true, true, true, true, true, true, true, true, true, true, true, true, false] rfl rfl (any_of HT_.out (by kernel_rfl)) (fun _ _ _ h => h) (Or.inl ⟨by rfl, ?_⟩) ?_ ?_
       rotate_left
       ·intro w'
        go_simp
        with_reducible rfl
       rotate_left
       ·simp only [Act.put, List.setIfInBounds_toArray, List.set_cons_zero, List.set_cons_succ, i64_w, i32_w]
        rfl
       refine pure_ (i := 16) (N := some 59) (v := ?_) (a' := ?_) #[true, true, true, true, true, true, true, true, true, true, true, true, true, true, true, true, true] rfl rfl (any_of HT_.out (by kernel_rfl)) (fun _ _ _ h => h) (Or.inl ⟨by rfl, ?_⟩) ?_ ?_
       rotate_left
       ·intro w'
        go_simp
        with_reducible rfl
       rotate_left
       ·simp only [Act.put, List.setIfInBounds_toArray, List.set_cons_zero, List.set_cons_succ, i64_w, i32_w]
        rfl
       refine done_ (done_of HT_.out (by kernel_rfl)) ?_
       try go_wp2
       go_meet
       case rel => exact ⟨_, ((!(t735 == t740) || (!(t736 == t741)))), (by first | rfl | (simp; done) | (simp [*]; done)), H', ⟨by have := HK1.out; first | omega | exact Nat.le_refl _⟩, ⟨bkx⟩, ⟨blx⟩⟩
      ·rw [if_neg c16] at H
       have c16b0 : (t735 == 1) = false := beq_eq_false_iff_ne.mpr c16
       have c16b1 : (t735 != 1) = true := bne_iff_ne.mpr c16
       (first | rw [c16b0] | (simp only [i64_w, i32_w]; rw [c16b0]) | skip)
       have H' := Aside0.mk H
       clear H
       try go_wp2
       have n0_ : Aside0 (((w14.setCell ⟨gb737, 0, none⟩ (.int .i64 t735)).setCell ⟨gb737, 1, none⟩ (.int .i64 t736)).heap[gb737]? = some (.cells #[.int .i64 t735, .int .i64 t736] 23 (0, 0))) := ⟨by (with_reducible repeat (first | refine blk_drewN ?_ _ | refine blk_drew ?_ | refine blk_alloc ?_ _)); refine blk_put (cs := #[.int .i64 t735, .int .i64 0]) ?_ 1 _ rfl; (with_reducible repeat (first | refine blk_drewN ?_ _ | refine blk_drew ?_ | refine blk_alloc ?_ _)); refine blk_put (cs := #[.int .i64 0, .int .i64 0]) ?_ 0 _ rfl; (with_reducible repeat (first | refine blk_drewN ?_ _ | refine blk_drew ?_ | refine blk_alloc ?_ _)); exact BK737.out⟩
       have n1_ : Aside0 (Below w.heap.size w ((w14.setCell ⟨gb737, 0, none⟩ (.int .i64 t735)).setCell ⟨gb737, 1, none⟩ (.int .i64 t736))) := ⟨blx⟩
       (try clear BK737)
       (try clear HB)
       generalize ((w14.setCell ⟨gb737, 0, none⟩ (.int .i64 t735)).setCell ⟨gb737, 1, none⟩ (.int .i64 t736)) = w23 at n0_ n1_ ⊢
       have BK737 := n0_
       have HB := n1_
       clear n0_ n1_
       have n0_ := Aside0.mk (blk_drew BK737.out)
       have n1_ := Aside0.mk (below_drew1 HB.out)
       clear BK737
       clear HB
       have BK737 := n0_
       have HB := n1_
       clear n0_ n1_
       refine start_ (n := 17) (S := fun w' => w'.cell? ⟨gb737, 0, none⟩ = some (.int .i64 t735) ∧ w'.cell? ⟨gb737, 1, none⟩ = some (.int .i64 t736)) (ds := []) #[false, false, false, false, false, false, false, false, false, false, false, false, false, false, false, false, false] (by kernel_rfl) rfl rfl ⟨(blk_cell BK737.out 0).trans rfl, (blk_cell BK737.out 1).trans rfl⟩ (fun hHeld => ?_); refine with_tabW levylaw1_MoneyNear.tab12 levylaw1_MoneyNear.bits12 (fun HT_ HW_ => ?_)
       generalize w23.drew = w24 at BK737 HB hHeld ⊢
       refine pure_ (i := 0) (N := some 43) (v := ?_) (a' := ?_) #[true, false, false, false, false, false, false, false, false, false, false, false, false, false, false, false, false] rfl rfl (any_of HT_.out (by kernel_rfl)) (fun _ _ _ h => h) (Or.inl ⟨by rfl, ?_⟩) ?_ ?_
       rotate_left
       ·intro w'
        go_simp
        with_reducible rfl
       rotate_left
       ·simp only [Act.put, List.setIfInBounds_toArray, List.set_cons_zero, List.set_cons_succ, i64_w, i32_w]
        rfl
       refine take_ (i := 1) (N := some 44) (v := ?_) (a' := ?_) #[true, true, false, false, false, false, false, false, false, false, false, false, false, false, false, false, false] rfl rfl (take_ofW HT_.out HW_.out (by kernel_rfl)) (fun _ _ _ h => h) (Or.inl ⟨by rfl, ?_⟩) hHeld ?_ ?_
       rotate_left
       ·rintro w' ⟨s0, s1⟩
        go_simp
        with_reducible rfl
       rotate_left
       ·simp only [Act.put, List.setIfInBounds_toArray, List.set_cons_zero, List.set_cons_succ, i64_w, i32_w]
        rfl
       refine pure_ (i := 2) (N := some 45) (v := ?_) (a' := ?_) #[true, true, true, false, false, false, false, false, false, false, false, false, false, false, false, false, false] rfl rfl (any_of HT_.out (by kernel_rfl)) (fun _ _ _ h => h) (Or.inl ⟨by rfl, ?_⟩) ?_ ?_
       rotate_left
       ·intro w'
        go_simp
        with_reducible rfl
       rotate_left
       ·simp only [Act.put, List.setIfInBounds_toArray, List.set_cons_zero, List.set_cons_succ, i64_w, i32_w]
        rfl
       refine pure_ (i := 3) (N := some 46) (v := ?_) (a' := ?_) #[true, true, true, true, false, false, false, false, false, false, false, false, false, false, false, false, false] rfl rfl (any_of HT_.out (by kernel_rfl)) (fun _ _ _ h => h) (Or.inl ⟨by rfl, ?_⟩) ?_ ?_
       rotate_left
       ·intro w'
        go_simp
        with_reducible rfl
       rotate_left
       ·simp only [Act.put, List.setIfInBounds_toArray, List.set_cons_zero, List.set_cons_succ, i64_w, i32_w]
        rfl
       refine pure_ (i := 4) (N := some 47) (v := undef) (a' := ?_) #[true, true, true, true, true, false, false, false, false, false, false, false, false, false, false, false, false] rfl rfl (any_of HT_.out (by kernel_rfl)) (fun _ _ _ h => h) (Or.inr ⟨by rfl, rfl⟩) ?_ ?_
       rotate_left
       ·simp only [Act.put, List.setIfInBounds_toArray, List.set_cons_zero, List.set_cons_succ, i64_w, i32_w]
        rfl
       refine pure_ (i := 5) (N := some 48) (v := undef) (a' := ?_) #[true, true, true, true, true, true, false, false, false, false, false, false, false, false, false, false, false] rfl rfl (any_of HT_.out (by kernel_rfl)) (fun _ _ _ h => h) (Or.inr ⟨by rfl, rfl⟩) ?_ ?_
       rotate_left
       ·simp only [Act.put, List.setIfInBounds_toArray, List.set_cons_zero, List.set_cons_succ, i64_w, i32_w]
        rfl
       refine pure_ (i := 6) (N := some 49) (v := undef) (a' := ?_) #[true, true, true, true, true, true, true, false, false, false, false, false, false, false, false, false, false] rfl rfl (any_of HT_.out (by kernel_rfl)) (fun _ _ _ h => h) (Or.inr ⟨by rfl, rfl⟩) ?_ ?_
       rotate_left
       ·simp only [Act.put, List.setIfInBounds_toArray, List.set_cons_zero, List.set_cons_succ, i64_w, i32_w]
        rfl
       refine pure_ (i := 7) (N := some 50) (v := undef) (a' := ?_) #[true, true, true, true, true, true, true, true, false, false, false, false, false, false, false, false, false] rfl rfl (any_of HT_.out (by kernel_rfl)) (fun _ _ _ h => h) (Or.inr ⟨by rfl, rfl⟩) ?_ ?_
       rotate_left
       ·simp only [Act.put, List.setIfInBounds_toArray, List.set_cons_zero, List.set_cons_succ, i64_w, i32_w]
        rfl
       refine pure_ (i := 8) (N := some 51) (v := undef) (a' := ?_) #[true, true, true, true, true, true, true, true, true, false, false, false, false, false, false, false, false] rfl rfl (any_of HT_.out (by kernel_rfl)) (fun _ _ _ h => h) (Or.inr ⟨by rfl, rfl⟩) ?_ ?_
       rotate_left
       ·simp only [Act.put, List.setIfInBounds_toArray, List.set_cons_zero, List.set_cons_succ, i64_w, i32_w]
        rfl
       refine pure_ (i := 9) (N := some 52) (v := undef) (a' := ?_) #[true, true, true, true, true, true, true, true, true, true, false, false, false, false, false, false, false] rfl rfl (any_of HT_.out (by kernel_rfl)) (fun _ _ _ h => h) (Or.inr ⟨by rfl, rfl⟩) ?_ ?_
       rotate_left
       ·simp only [Act.put, List.setIfInBounds_toArray, List.set_cons_zero, List.set_cons_succ, i64_w, i32_w]
        rfl
       refine pure_ (i := 10) (N := some 53) (v := undef) (a' := ?_) #[true, true, true, true, true, true, true, true, true, true, true, false, false, false, false, false, false] rfl rfl (any_of HT_.out (by kernel_rfl)) (fun _ _ _ h => h) (Or.inr ⟨by rfl, rfl⟩) ?_ ?_
       rotate_left
       ·simp only [Act.put, List.setIfInBounds_toArray, List.set_cons_zero, List.set_cons_succ, i64_w, i32_w]
        rfl
       refine pure_ (i := 11) (N := some 54) (v := undef) (a' := ?_) #[true, true, true, true, true, true, true, true, true, true, true, true, false, false, false, false, false] rfl rfl (any_of HT_.out (by kernel_rfl)) (fun _ _ _ h => h) (Or.inr ⟨by rfl, rfl⟩) ?_ ?_
       rotate_left
       ·simp only [Act.put, List.setIfInBounds_toArray, List.set_cons_zero, List.set_cons_succ, i64_w, i32_w]
        rfl
       refine pure_ (i := 12) (N := some 55) (v := undef) (a' := ?_) #[true, true, true, true, true, true, true, true, true, true, true, true, true, false, false, false, false] rfl rfl (any_of HT_.out (by kernel_rfl)) (fun _ _ _ h => h) (Or.inr ⟨by rfl, rfl⟩) ?_ ?_
       rotate_left
       ·simp only [Act.put, List.setIfInBounds_toArray, List.set_cons_zero, List.set_cons_succ, i64_w, i32_w]
        rfl
       refine pure_ (i := 13) (N := some 56) (v := undef) (a' := ?_) #[true, true, true, true, true, true, true, true, true, true, true, true, true, true, false, false, false] rfl rfl (any_of HT_.out (by kernel_rfl)) (fun _ _ _ h => h) (Or.inr ⟨by rfl, rfl⟩) ?_ ?_
       rotate_left
       ·simp only [Act.put, List.setIfInBounds_toArray, List.set_cons_zero, List.set_cons_succ, i64_w, i32_w]
        rfl
       refine pure_ (i := 14) (N := some 57) (v := undef) (a' := ?_) #[true, true, true, true, true, true, true, true, true, true, true, true, true, true, true, false, false] rfl rfl (any_of HT_.out (by kernel_rfl)) (fun _ _ _ h => h) (Or.inr ⟨by rfl, rfl⟩) ?_ ?_
       rotate_left
       ·simp only [Act.put, List.setIfInBounds_toArray, List.set_cons_zero, List.set_cons_succ, i64_w, i32_w]
        rfl
       refine pure_ (i := 15) (N := some 58) (v := undef) (a' := ?_) #[true, true, true, true, true, true, true, true, true, true, true, true, true, true, true, true, false] rfl rfl (any_of HT_.out (by kernel_rfl)) (fun _ _ _ h => h) (Or.inr ⟨by rfl, rfl⟩) ?_ ?_
       rotate_left
       ·simp only [Act.put, List.setIfInBounds_toArray, List.set_cons_zero, List.set_cons_succ, i64_w, i32_w]
        rfl
       refine pure_ (i := 16) (N := some 59) (v := ?_) (a' := ?_) #[true, true, true, true, true, true, true, true, true, true, true, true, true, true, true, true, true] rfl rfl (any_of HT_.out (by kernel_rfl)) (fun _ _ _ h => h) (Or.inl ⟨by rfl, ?_⟩) ?_ ?_
       rotate_left
       ·intro w'
        go_simp
        with_reducible rfl
       rotate_left
       ·simp only [Act.put, List.setIfInBounds_toArray, List.set_cons_zero, List.set_cons_succ, i64_w, i32_w]
        rfl
       refine done_ (done_of HT_.out (by kernel_rfl)) ?_
       try go_wp2
       go_meet
       case rel => exact ⟨_, (true), (by first | rfl | (simp; done) | (simp [*]; done)), H', ⟨by have := HK1.out; first | omega | exact Nat.le_refl _⟩, ⟨bkx⟩, ⟨blx⟩⟩
     case rest =>
      clear HC11
      try clear c1
      try clear p2
      try clear c4
      try clear c5
      try clear c6
      try clear p6
      try clear c8
      try clear c8b0
      try clear c13
      try clear c16
      try clear c16b0
      try clear c16b1
      try clear hcz15_0
      try clear hcz15_1
      try clear hfz15_0
      try clear hfz15_1
      try clear p2
      try clear p6
      obtain ⟨kq, x59_10, rfl, HA, HJ10, BK737, HB⟩ := hcut
      cases kq with
      | zero => exact absurd HA.out (by simp [levylaw1_MoneyNear.j1])
      | succ kj10 =>
       have H := HA.out
       clear HA
       simp only [levylaw1_MoneyNear.j1] at H
       by_cases c25 : x59_10 = true
       ·subst c25
        have H1 : (some false) = some r := by rw [if_pos rfl] at H; exact H
        clear H
        have H := H1
        clear H1
        obtain rfl := Option.some.inj H
        go_wp2
        go_ret
        exact ⟨by first | rfl | (simp [errW_none, errW_some] <;> rfl) | (simp [*, errW_none, errW_some] <;> rfl), blx⟩
       ·replace c25 := Bool.eq_false_iff.mpr c25
        subst c25
        have H1 : (if x10_1 = 1 then (if (wrap64 ((wrap64 ((Int.tmod a0 1000001) * (Int.tmod a1 1000001))) - (wrap64 (t736 * (wrap64 (1 + (Int.tmod (wrap64 ((Int.tmod a2 1000000) + 1000000)) 1000000))))))) ≥ 0 then (if ((wrap64 ((wrap64 ((Int.tmod a0 1000001) * (Int.tmod a1 1000001))) - (wrap64 (t736 * (wrap64 (1 + (Int.tmod (wrap64 ((Int.tmod a2 1000000) + 1000000)) 1000000))))))) < (wrap64 (1 + (Int.tmod (wrap64 ((Int.tmod a2 1000000) + 1000000)) 1000000)))) then (levylaw1_MoneyNear.l0 kj10 (Int.tmod a0 1000001) (Int.tmod a1 1000001) (wrap64 (1 + (Int.tmod (wrap64 ((Int.tmod a2 1000000) + 1000000)) 1000000))) (wrap64 (1 + (Int.tmod (wrap64 ((Int.tmod a3 900) + 900)) 900))) (wrap64 ((Int.tmod a0 1000001) * (Int.tmod a1 1000001))) (wrap64 (x10_1 + 1))) else (some false)) else (some false)) else (if x10_1 = 2 then (if (wrap64 ((wrap64 ((Int.tmod a0 1000001) * (Int.tmod a1 1000001))) - (wrap64 (t736 * (wrap64 (1 + (Int.tmod (wrap64 ((Int.tmod a2 1000000) + 1000000)) 1000000))))))) ≤ 0 then (if ((wrap64 ((wrap64 ((Int.tmod a0 1000001) * (Int.tmod a1 1000001))) - (wrap64 (t736 * (wrap64 (1 + (Int.tmod (wrap64 ((Int.tmod a2 1000000) + 1000000)) 1000000))))))) > (wrap64 (-(wrap64 (1 + (Int.tmod (wrap64 ((Int.tmod a2 1000000) + 1000000)) 1000000)))))) then (levylaw1_MoneyNear.l0 kj10 (Int.tmod a0 1000001) (Int.tmod a1 1000001) (wrap64 (1 + (Int.tmod (wrap64 ((Int.tmod a2 1000000) + 1000000)) 1000000))) (wrap64 (1 + (Int.tmod (wrap64 ((Int.tmod a3 900) + 900)) 900))) (wrap64 ((Int.tmod a0 1000001) * (Int.tmod a1 1000001))) (wrap64 (x10_1 + 1))) else (some false)) else (some false)) else (if x10_1 = 3 then (if (wrap64 ((wrap64 ((Int.tmod a0 1000001) * (Int.tmod a1 1000001))) - (wrap64 (t736 * (wrap64 (1 + (Int.tmod (wrap64 ((Int.tmod a2 1000000) + 1000000)) 1000000))))))) > (wrap64 (-(wrap64 (1 + (Int.tmod (wrap64 ((Int.tmod a2 1000000) + 1000000)) 1000000))))) then (if (wrap64 ((wrap64 ((Int.tmod a0 1000001) * (Int.tmod a1 1000001))) - (wrap64 (t736 * (wrap64 (1 + (Int.tmod (wrap64 ((Int.tmod a2 1000000) + 1000000)) 1000000))))))) < (wrap64 (1 + (Int.tmod (wrap64 ((Int.tmod a2 1000000) + 1000000)) 1000000))) then (if (wrap64 ((wrap64 ((Int.tmod a0 1000001) * (Int.tmod a1 1000001))) - (wrap64 (t736 * (wrap64 (1 + (Int.tmod (wrap64 ((Int.tmod a2 1000000) + 1000000)) 1000000))))))) = 0 then (levylaw1_MoneyNear.l0 kj10 (Int.tmod a0 1000001) (Int.tmod a1 1000001) (wrap64 (1 + (Int.tmod (wrap64 ((Int.tmod a2 1000000) + 1000000)) 1000000))) (wrap64 (1 + (Int.tmod (wrap64 ((Int.tmod a3 900) + 900)) 900))) (wrap64 ((Int.tmod a0 1000001) * (Int.tmod a1 1000001))) (wrap64 (x10_1 + 1))) else (if (((decide ((wrap64 ((wrap64 ((Int.tmod a0 1000001) * (Int.tmod a1 1000001))) - (wrap64 (t736 * (wrap64 (1 + (Int.tmod (wrap64 ((Int.tmod a2 1000000) + 1000000)) 1000000))))))) > 0)) == (decide ((wrap64 ((Int.tmod a0 1000001) * (Int.tmod a1 1000001))) > 0))) = true) then (levylaw1_MoneyNear.l0 kj10 (Int.tmod a0 1000001) (Int.tmod a1 1000001) (wrap64 (1 + (Int.tmod (wrap64 ((Int.tmod a2 1000000) + 1000000)) 1000000))) (wrap64 (1 + (Int.tmod (wrap64 ((Int.tmod a3 900) + 900)) 900))) (wrap64 ((Int.tmod a0 1000001) * (Int.tmod a1 1000001))) (wrap64 (x10_1 + 1))) else (some false))) else (some false)) else (some false)) else (if x10_1 = 4 then (if (wrap64 (2 * (wrap64 ((wrap64 ((Int.tmod a0 1000001) * (Int.tmod a1 1000001))) - (wrap64 (t736 * (wrap64 (1 + (Int.tmod (wrap64 ((Int.tmod a2 1000000) + 1000000)) 1000000))))))))) < (wrap64 (1 + (Int.tmod (wrap64 ((Int.tmod a2 1000000) + 1000000)) 1000000))) then (if ((wrap64 (2 * (wrap64 ((wrap64 ((Int.tmod a0 1000001) * (Int.tmod a1 1000001))) - (wrap64 (t736 * (wrap64 (1 + (Int.tmod (wrap64 ((Int.tmod a2 1000000) + 1000000)) 1000000))))))))) ≥ (wrap64 (-(wrap64 (1 + (Int.tmod (wrap64 ((Int.tmod a2 1000000) + 1000000)) 1000000)))))) then (levylaw1_MoneyNear.l0 kj10 (Int.tmod a0 1000001) (Int.tmod a1 1000001) (wrap64 (1 + (Int.tmod (wrap64 ((Int.tmod a2 1000000) + 1000000)) 1000000))) (wrap64 (1 + (Int.tmod (wrap64 ((Int.tmod a3 900) + 900)) 900))) (wrap64 ((Int.tmod a0 1000001) * (Int.tmod a1 1000001))) (wrap64 (x10_1 + 1))) else (some false)) else (some false)) else (if x10_1 = 5 then (if (wrap64 (2 * (wrap64 ((wrap64 ((Int.tmod a0 1000001) * (Int.tmod a1 1000001))) - (wrap64 (t736 * (wrap64 (1 + (Int.tmod (wrap64 ((Int.tmod a2 1000000) + 1000000)) 1000000))))))))) ≤ (wrap64 (1 + (Int.tmod (wrap64 ((Int.tmod a2 1000000) + 1000000)) 1000000))) then (if (wrap64 (2 * (wrap64 ((wrap64 ((Int.tmod a0 1000001) * (Int.tmod a1 1000001))) - (wrap64 (t736 * (wrap64 (1 + (Int.tmod (wrap64 ((Int.tmod a2 1000000) + 1000000)) 1000000))))))))) ≥ (wrap64 (-(wrap64 (1 + (Int.tmod (wrap64 ((Int.tmod a2 1000000) + 1000000)) 1000000))))) then (if (wrap64 (2 * (wrap64 ((wrap64 ((Int.tmod a0 1000001) * (Int.tmod a1 1000001))) - (wrap64 (t736 * (wrap64 (1 + (Int.tmod (wrap64 ((Int.tmod a2 1000000) + 1000000)) 1000000))))))))) = (wrap64 (1 + (Int.tmod (wrap64 ((Int.tmod a2 1000000) + 1000000)) 1000000))) then (if ((Int.tmod t736 2) = 0) then (levylaw1_MoneyNear.l0 kj10 (Int.tmod a0 1000001) (Int.tmod a1 1000001) (wrap64 (1 + (Int.tmod (wrap64 ((Int.tmod a2 1000000) + 1000000)) 1000000))) (wrap64 (1 + (Int.tmod (wrap64 ((Int.tmod a3 900) + 900)) 900))) (wrap64 ((Int.tmod a0 1000001) * (Int.tmod a1 1000001))) (wrap64 (x10_1 + 1))) else (some false)) else (if (wrap64 (2 * (wrap64 ((wrap64 ((Int.tmod a0 1000001) * (Int.tmod a1 1000001))) - (wrap64 (t736 * (wrap64 (1 + (Int.tmod (wrap64 ((Int.tmod a2 1000000) + 1000000)) 1000000))))))))) = (wrap64 (-(wrap64 (1 + (Int.tmod (wrap64 ((Int.tmod a2 1000000) + 1000000)) 1000000))))) then (if ((Int.tmod t736 2) = 0) then (levylaw1_MoneyNear.l0 kj10 (Int.tmod a0 1000001) (Int.tmod a1 1000001) (wrap64 (1 + (Int.tmod (wrap64 ((Int.tmod a2 1000000) + 1000000)) 1000000))) (wrap64 (1 + (Int.tmod (wrap64 ((Int.tmod a3 900) + 900)) 900))) (wrap64 ((Int.tmod a0 1000001) * (Int.tmod a1 1000001))) (wrap64 (x10_1 + 1))) else (some false)) else (levylaw1_MoneyNear.l0 kj10 (Int.tmod a0 1000001) (Int.tmod a1 1000001) (wrap64 (1 + (Int.tmod (wrap64 ((Int.tmod a2 1000000) + 1000000)) 1000000))) (wrap64 (1 + (Int.tmod (wrap64 ((Int.tmod a3 900) + 900)) 900))) (wrap64 ((Int.tmod a0 1000001) * (Int.tmod a1 1000001))) (wrap64 (x10_1 + 1))))) else (some false)) else (some false)) else (some false)))))) = some r := by rw [if_neg (show ¬ (false = true) by decide)] at H; exact H
        clear H
        have H := H1
        clear H1
        by_cases c26 : x10_1 = 1
        ·rw [if_pos c26] at H
         have c26b0 : (x10_1 == 1) = true := beq_iff_eq.mpr c26
         have c26b1 : (x10_1 != 1) = false := bne_eq_false_iff_eq.mpr c26
         clear c26
         by_cases c27 : (wrap64 ((wrap64 ((Int.tmod a0 1000001) * (Int.tmod a1 1000001))) - (wrap64 (t736 * (wrap64 (1 + (Int.tmod (wrap64 ((Int.tmod a2 1000000) + 1000000)) 1000000))))))) ≥ 0
         ·rw [if_pos c27] at H
          have c27b0 : decide (0 ≤ (wrap64 ((wrap64 ((Int.tmod a0 1000001) * (Int.tmod a1 1000001))) - (wrap64 (t736 * (wrap64 (1 + (Int.tmod (wrap64 ((Int.tmod a2 1000000) + 1000000)) 1000000)))))))) = true := decide_eq_true c27
          clear c27
          by_cases c28 : ((wrap64 ((wrap64 ((Int.tmod a0 1000001) * (Int.tmod a1 1000001))) - (wrap64 (t736 * (wrap64 (1 + (Int.tmod (wrap64 ((Int.tmod a2 1000000) + 1000000)) 1000000))))))) < (wrap64 (1 + (Int.tmod (wrap64 ((Int.tmod a2 1000000) + 1000000)) 1000000))))
          ·rw [if_pos c28] at H
           have c28b0 : decide ((wrap64 ((wrap64 ((Int.tmod a0 1000001) * (Int.tmod a1 1000001))) - (wrap64 (t736 * (wrap64 (1 + (Int.tmod (wrap64 ((Int.tmod a2 1000000) + 1000000)) 1000000))))))) < (wrap64 (1 + (Int.tmod (wrap64 ((Int.tmod a2 1000000) + 1000000)) 1000000)))) = true := decide_eq_true c28
           clear c28
           have H' := Aside0.mk H
           clear H
           have hcz29_0 : wc.cell? ⟨gb737, 0, none⟩ = some (.int .i64 t735) := (blk_cell BK737.out 0).trans rfl
           have hcz29_1 : wc.cell? ⟨gb737, 1, none⟩ = some (.int .i64 t736) := (blk_cell BK737.out 1).trans rfl
           have hfz29_0 := blk_frozen BK737.out 0
           have hfz29_1 := blk_frozen BK737.out 1
           go_wp2
           go_roundg kj10
           case measure => have := HK1.out; have := HJ10.out; omega
           case rel => exact ⟨(wrap64 (x10_1 + 1)), (by first | rfl | (simp; done) | (simp [*]; done)), H', ⟨by have := HK1.out; have := HJ10.out; omega⟩, ⟨blx⟩⟩
          ·rw [if_neg c28] at H
           have c28b0 : decide ((wrap64 ((wrap64 ((Int.tmod a0 1000001) * (Int.tmod a1 1000001))) - (wrap64 (t736 * (wrap64 (1 + (Int.tmod (wrap64 ((Int.tmod a2 1000000) + 1000000)) 1000000))))))) < (wrap64 (1 + (Int.tmod (wrap64 ((Int.tmod a2 1000000) + 1000000)) 1000000)))) = false := decide_eq_false c28
           clear c28
           obtain rfl := Option.some.inj H
           have hcz30_0 : wc.cell? ⟨gb737, 0, none⟩ = some (.int .i64 t735) := (blk_cell BK737.out 0).trans rfl
           have hcz30_1 : wc.cell? ⟨gb737, 1, none⟩ = some (.int .i64 t736) := (blk_cell BK737.out 1).trans rfl
           have hfz30_0 := blk_frozen BK737.out 0
           have hfz30_1 := blk_frozen BK737.out 1
           go_wp2
           go_ret
           exact ⟨by first | rfl | (simp [errW_none, errW_some] <;> rfl) | (simp [*, errW_none, errW_some] <;> rfl), blx⟩
         ·rw [if_neg c27] at H
          have c27b0 : decide (0 ≤ (wrap64 ((wrap64 ((Int.tmod a0 1000001) * (Int.tmod a1 1000001))) - (wrap64 (t736 * (wrap64 (1 + (Int.tmod (wrap64 ((Int.tmod a2 1000000) + 1000000)) 1000000)))))))) = false := decide_eq_false c27
          clear c27
          obtain rfl := Option.some.inj H
          have hcz31_0 : wc.cell? ⟨gb737, 0, none⟩ = some (.int .i64 t735) := (blk_cell BK737.out 0).trans rfl
          have hcz31_1 : wc.cell? ⟨gb737, 1, none⟩ = some (.int .i64 t736) := (blk_cell BK737.out 1).trans rfl
          have hfz31_0 := blk_frozen BK737.out 0
          have hfz31_1 := blk_frozen BK737.out 1
          go_wp2
          go_ret
          exact ⟨by first | rfl | (simp [errW_none, errW_some] <;> rfl) | (simp [*, errW_none, errW_some] <;> rfl), blx⟩
        ·rw [if_neg c26] at H
         have c26b0 : (x10_1 == 1) = false := beq_eq_false_iff_ne.mpr c26
         have c26b1 : (x10_1 != 1) = true := bne_iff_ne.mpr c26
         by_cases c32 : x10_1 = 2
         ·rw [if_pos c32] at H
          have c32b0 : (x10_1 == 2) = true := beq_iff_eq.mpr c32
          have c32b1 : (x10_1 != 2) = false := bne_eq_false_iff_eq.mpr c32
          clear c32
          by_cases c33 : (wrap64 ((wrap64 ((Int.tmod a0 1000001) * (Int.tmod a1 1000001))) - (wrap64 (t736 * (wrap64 (1 + (Int.tmod (wrap64 ((Int.tmod a2 1000000) + 1000000)) 1000000))))))) ≤ 0
          ·rw [if_pos c33] at H
           have c33b0 : decide ((wrap64 ((wrap64 ((Int.tmod a0 1000001) * (Int.tmod a1 1000001))) - (wrap64 (t736 * (wrap64 (1 + (Int.tmod (wrap64 ((Int.tmod a2 1000000) + 1000000)) 1000000))))))) ≤ 0) = true := decide_eq_true c33
           clear c33
           by_cases c34 : ((wrap64 ((wrap64 ((Int.tmod a0 1000001) * (Int.tmod a1 1000001))) - (wrap64 (t736 * (wrap64 (1 + (Int.tmod (wrap64 ((Int.tmod a2 1000000) + 1000000)) 1000000))))))) > (wrap64 (-(wrap64 (1 + (Int.tmod (wrap64 ((Int.tmod a2 1000000) + 1000000)) 1000000))))))
           ·rw [if_pos c34] at H
            have c34b0 : decide ((wrap64 (-(wrap64 (1 + (Int.tmod (wrap64 ((Int.tmod a2 1000000) + 1000000)) 1000000))))) < (wrap64 ((wrap64 ((Int.tmod a0 1000001) * (Int.tmod a1 1000001))) - (wrap64 (t736 * (wrap64 (1 + (Int.tmod (wrap64 ((Int.tmod a2 1000000) + 1000000)) 1000000)))))))) = true := decide_eq_true c34
            clear c34
            have H' := Aside0.mk H
            clear H
            have hcz35_0 : wc.cell? ⟨gb737, 0, none⟩ = some (.int .i64 t735) := (blk_cell BK737.out 0).trans rfl
            have hcz35_1 : wc.cell? ⟨gb737, 1, none⟩ = some (.int .i64 t736) := (blk_cell BK737.out 1).trans rfl
            have hfz35_0 := blk_frozen BK737.out 0
            have hfz35_1 := blk_frozen BK737.out 1
            go_wp2
            go_roundg kj10
            case measure => have := HK1.out; have := HJ10.out; omega
            case rel => exact ⟨(wrap64 (x10_1 + 1)), (by first | rfl | (simp; done) | (simp [*]; done)), H', ⟨by have := HK1.out; have := HJ10.out; omega⟩, ⟨blx⟩⟩
           ·rw [if_neg c34] at H
            have c34b0 : decide ((wrap64 (-(wrap64 (1 + (Int.tmod (wrap64 ((Int.tmod a2 1000000) + 1000000)) 1000000))))) < (wrap64 ((wrap64 ((Int.tmod a0 1000001) * (Int.tmod a1 1000001))) - (wrap64 (t736 * (wrap64 (1 + (Int.tmod (wrap64 ((Int.tmod a2 1000000) + 1000000)) 1000000)))))))) = false := decide_eq_false c34
            clear c34
            obtain rfl := Option.some.inj H
            have hcz36_0 : wc.cell? ⟨gb737, 0, none⟩ = some (.int .i64 t735) := (blk_cell BK737.out 0).trans rfl
            have hcz36_1 : wc.cell? ⟨gb737, 1, none⟩ = some (.int .i64 t736) := (blk_cell BK737.out 1).trans rfl
            have hfz36_0 := blk_frozen BK737.out 0
            have hfz36_1 := blk_frozen BK737.out 1
            go_wp2
            go_ret
            exact ⟨by first | rfl | (simp [errW_none, errW_some] <;> rfl) | (simp [*, errW_none, errW_some] <;> rfl), blx⟩
          ·rw [if_neg c33] at H
           have c33b0 : decide ((wrap64 ((wrap64 ((Int.tmod a0 1000001) * (Int.tmod a1 1000001))) - (wrap64 (t736 * (wrap64 (1 + (Int.tmod (wrap64 ((Int.tmod a2 1000000) + 1000000)) 1000000))))))) ≤ 0) = false := decide_eq_false c33
           clear c33
           obtain rfl := Option.some.inj H
           have hcz37_0 : wc.cell? ⟨gb737, 0, none⟩ = some (.int .i64 t735) := (blk_cell BK737.out 0).trans rfl
           have hcz37_1 : wc.cell? ⟨gb737, 1, none⟩ = some (.int .i64 t736) := (blk_cell BK737.out 1).trans rfl
           have hfz37_0 := blk_frozen BK737.out 0
           have hfz37_1 := blk_frozen BK737.out 1
           go_wp2
           go_ret
           exact ⟨by first | rfl | (simp [errW_none, errW_some] <;> rfl) | (simp [*, errW_none, errW_some] <;> rfl), blx⟩
         ·rw [if_neg c32] at H
          have c32b0 : (x10_1 == 2) = false := beq_eq_false_iff_ne.mpr c32
          have c32b1 : (x10_1 != 2) = true := bne_iff_ne.mpr c32
          by_cases c38 : x10_1 = 3
          ·rw [if_pos c38] at H
           have c38b0 : (x10_1 == 3) = true := beq_iff_eq.mpr c38
           have c38b1 : (x10_1 != 3) = false := bne_eq_false_iff_eq.mpr c38
           clear c38
           by_cases c39 : (wrap64 ((wrap64 ((Int.tmod a0 1000001) * (Int.tmod a1 1000001))) - (wrap64 (t736 * (wrap64 (1 + (Int.tmod (wrap64 ((Int.tmod a2 1000000) + 1000000)) 1000000))))))) > (wrap64 (-(wrap64 (1 + (Int.tmod (wrap64 ((Int.tmod a2 1000000) + 1000000)) 1000000)))))
           ·rw [if_pos c39] at H
            have c39b0 : decide ((wrap64 (-(wrap64 (1 + (Int.tmod (wrap64 ((Int.tmod a2 1000000) + 1000000)) 1000000))))) < (wrap64 ((wrap64 ((Int.tmod a0 1000001) * (Int.tmod a1 1000001))) - (wrap64 (t736 * (wrap64 (1 + (Int.tmod (wrap64 ((Int.tmod a2 1000000) + 1000000)) 1000000)))))))) = true := decide_eq_true c39
            clear c39
            by_cases c40 : (wrap64 ((wrap64 ((Int.tmod a0 1000001) * (Int.tmod a1 1000001))) - (wrap64 (t736 * (wrap64 (1 + (Int.tmod (wrap64 ((Int.tmod a2 1000000) + 1000000)) 1000000))))))) < (wrap64 (1 + (Int.tmod (wrap64 ((Int.tmod a2 1000000) + 1000000)) 1000000)))
            ·rw [if_pos c40] at H
             have c40b0 : decide ((wrap64 ((wrap64 ((Int.tmod a0 1000001) * (Int.tmod a1 1000001))) - (wrap64 (t736 * (wrap64 (1 + (Int.tmod (wrap64 ((Int.tmod a2 1000000) + 1000000)) 1000000))))))) < (wrap64 (1 + (Int.tmod (wrap64 ((Int.tmod a2 1000000) + 1000000)) 1000000)))) = true := decide_eq_true c40
             clear c40
             by_cases c41 : (wrap64 ((wrap64 ((Int.tmod a0 1000001) * (Int.tmod a1 1000001))) - (wrap64 (t736 * (wrap64 (1 + (Int.tmod (wrap64 ((Int.tmod a2 1000000) + 1000000)) 1000000))))))) = 0
             ·rw [if_pos c41] at H
              have c41b0 : ((wrap64 ((wrap64 ((Int.tmod a0 1000001) * (Int.tmod a1 1000001))) - (wrap64 (t736 * (wrap64 (1 + (Int.tmod (wrap64 ((Int.tmod a2 1000000) + 1000000)) 1000000))))))) == 0) = true := beq_iff_eq.mpr c41
              have c41b1 : ((wrap64 ((wrap64 ((Int.tmod a0 1000001) * (Int.tmod a1 1000001))) - (wrap64 (t736 * (wrap64 (1 + (Int.tmod (wrap64 ((Int.tmod a2 1000000) + 1000000)) 1000000))))))) != 0) = false := bne_eq_false_iff_eq.mpr c41
              clear c41
              have H' := Aside0.mk H
              clear H
              have hcz42_0 : wc.cell? ⟨gb737, 0, none⟩ = some (.int .i64 t735) := (blk_cell BK737.out 0).trans rfl
              have hcz42_1 : wc.cell? ⟨gb737, 1, none⟩ = some (.int .i64 t736) := (blk_cell BK737.out 1).trans rfl
              have hfz42_0 := blk_frozen BK737.out 0
              have hfz42_1 := blk_frozen BK737.out 1
              go_wp2
              go_roundg kj10
              case measure => have := HK1.out; have := HJ10.out; omega
              case rel => exact ⟨(wrap64 (x10_1 + 1)), (by first | rfl | (simp; done) | (simp [*]; done)), H', ⟨by have := HK1.out; have := HJ10.out; omega⟩, ⟨blx⟩⟩
             ·rw [if_neg c41] at H
              have c41b0 : ((wrap64 ((wrap64 ((Int.tmod a0 1000001) * (Int.tmod a1 1000001))) - (wrap64 (t736 * (wrap64 (1 + (Int.tmod (wrap64 ((Int.tmod a2 1000000) + 1000000)) 1000000))))))) == 0) = false := beq_eq_false_iff_ne.mpr c41
              have c41b1 : ((wrap64 ((wrap64 ((Int.tmod a0 1000001) * (Int.tmod a1 1000001))) - (wrap64 (t736 * (wrap64 (1 + (Int.tmod (wrap64 ((Int.tmod a2 1000000) + 1000000)) 1000000))))))) != 0) = true := bne_iff_ne.mpr c41
              by_cases c43 : (((decide ((wrap64 ((wrap64 ((Int.tmod a0 1000001) * (Int.tmod a1 1000001))) - (wrap64 (t736 * (wrap64 (1 + (Int.tmod (wrap64 ((Int.tmod a2 1000000) + 1000000)) 1000000))))))) > 0)) == (decide ((wrap64 ((Int.tmod a0 1000001) * (Int.tmod a1 1000001))) > 0))) = true)
              ·rw [if_pos c43] at H
               have c43b0 : ((decide ((wrap64 ((wrap64 ((Int.tmod a0 1000001) * (Int.tmod a1 1000001))) - (wrap64 (t736 * (wrap64 (1 + (Int.tmod (wrap64 ((Int.tmod a2 1000000) + 1000000)) 1000000))))))) > 0)) == (decide ((wrap64 ((Int.tmod a0 1000001) * (Int.tmod a1 1000001))) > 0))) = true := c43
               (try (have c43b1 : decide ((decide ((wrap64 ((wrap64 ((Int.tmod a0 1000001) * (Int.tmod a1 1000001))) - (wrap64 (t736 * (wrap64 (1 + (Int.tmod (wrap64 ((Int.tmod a2 1000000) + 1000000)) 1000000))))))) > 0)) = (decide ((wrap64 ((Int.tmod a0 1000001) * (Int.tmod a1 1000001))) > 0))) = true := by simpa using c43))
               (try (have c43b2 : ((decide ((wrap64 ((wrap64 ((Int.tmod a0 1000001) * (Int.tmod a1 1000001))) - (wrap64 (t736 * (wrap64 (1 + (Int.tmod (wrap64 ((Int.tmod a2 1000000) + 1000000)) 1000000))))))) > 0)) == (decide ((wrap64 ((Int.tmod a0 1000001) * (Int.tmod a1 1000001))) > 0))) = true := by simpa using c43))
               clear c43
               have H' := Aside0.mk H
               clear H
               have hcz44_0 : wc.cell? ⟨gb737, 0, none⟩ = some (.int .i64 t735) := (blk_cell BK737.out 0).trans rfl
               have hcz44_1 : wc.cell? ⟨gb737, 1, none⟩ = some (.int .i64 t736) := (blk_cell BK737.out 1).trans rfl
               have hfz44_0 := blk_frozen BK737.out 0
               have hfz44_1 := blk_frozen BK737.out 1
               go_wp2
               go_roundg kj10
               case measure => have := HK1.out; have := HJ10.out; omega
               case rel => exact ⟨(wrap64 (x10_1 + 1)), (by first | rfl | (simp; done) | (simp [*]; done)), H', ⟨by have := HK1.out; have := HJ10.out; omega⟩, ⟨blx⟩⟩
              ·rw [if_neg c43] at H
               have c43b0 : ((decide ((wrap64 ((wrap64 ((Int.tmod a0 1000001) * (Int.tmod a1 1000001))) - (wrap64 (t736 * (wrap64 (1 + (Int.tmod (wrap64 ((Int.tmod a2 1000000) + 1000000)) 1000000))))))) > 0)) == (decide ((wrap64 ((Int.tmod a0 1000001) * (Int.tmod a1 1000001))) > 0))) = false := by simpa using c43
               (try (have c43b1 : decide ((decide ((wrap64 ((wrap64 ((Int.tmod a0 1000001) * (Int.tmod a1 1000001))) - (wrap64 (t736 * (wrap64 (1 + (Int.tmod (wrap64 ((Int.tmod a2 1000000) + 1000000)) 1000000))))))) > 0)) = (decide ((wrap64 ((Int.tmod a0 1000001) * (Int.tmod a1 1000001))) > 0))) = false := by simpa using c43))
               (try (have c43b2 : ((decide ((wrap64 ((wrap64 ((Int.tmod a0 1000001) * (Int.tmod a1 1000001))) - (wrap64 (t736 * (wrap64 (1 + (Int.tmod (wrap64 ((Int.tmod a2 1000000) + 1000000)) 1000000))))))) > 0)) == (decide ((wrap64 ((Int.tmod a0 1000001) * (Int.tmod a1 1000001))) > 0))) = false := by simpa using c43))
               (try (have c43b3 : ¬ ((decide ((wrap64 ((wrap64 ((Int.tmod a0 1000001) * (Int.tmod a1 1000001))) - (wrap64 (t736 * (wrap64 (1 + (Int.tmod (wrap64 ((Int.tmod a2 1000000) + 1000000)) 1000000))))))) > 0)) = (decide ((wrap64 ((Int.tmod a0 1000001) * (Int.tmod a1 1000001))) > 0))) := by simpa using c43))
               clear c43
               obtain rfl := Option.some.inj H
               have hcz45_0 : wc.cell? ⟨gb737, 0, none⟩ = some (.int .i64 t735) := (blk_cell BK737.out 0).trans rfl
               have hcz45_1 : wc.cell? ⟨gb737, 1, none⟩ = some (.int .i64 t736) := (blk_cell BK737.out 1).trans rfl
               have hfz45_0 := blk_frozen BK737.out 0
               have hfz45_1 := blk_frozen BK737.out 1
               go_wp2
               go_ret
               exact ⟨by first | rfl | (simp [errW_none, errW_some] <;> rfl) | (simp [*, errW_none, errW_some] <;> rfl), blx⟩
            ·rw [if_neg c40] at H
             have c40b0 : decide ((wrap64 ((wrap64 ((Int.tmod a0 1000001) * (Int.tmod a1 1000001))) - (wrap64 (t736 * (wrap64 (1 + (Int.tmod (wrap64 ((Int.tmod a2 1000000) + 1000000)) 1000000))))))) < (wrap64 (1 + (Int.tmod (wrap64 ((Int.tmod a2 1000000) + 1000000)) 1000000)))) = false := decide_eq_false c40
             clear c40
             obtain rfl := Option.some.inj H
             have hcz46_0 : wc.cell? ⟨gb737, 0, none⟩ = some (.int .i64 t735) := (blk_cell BK737.out 0).trans rfl
             have hcz46_1 : wc.cell? ⟨gb737, 1, none⟩ = some (.int .i64 t736) := (blk_cell BK737.out 1).trans rfl
             have hfz46_0 := blk_frozen BK737.out 0
             have hfz46_1 := blk_frozen BK737.out 1
             go_wp2
             go_ret
             exact ⟨by first | rfl | (simp [errW_none, errW_some] <;> rfl) | (simp [*, errW_none, errW_some] <;> rfl), blx⟩
           ·rw [if_neg c39] at H
            have c39b0 : decide ((wrap64 (-(wrap64 (1 + (Int.tmod (wrap64 ((Int.tmod a2 1000000) + 1000000)) 1000000))))) < (wrap64 ((wrap64 ((Int.tmod a0 1000001) * (Int.tmod a1 1000001))) - (wrap64 (t736 * (wrap64 (1 + (Int.tmod (wrap64 ((Int.tmod a2 1000000) + 1000000)) 1000000)))))))) = false := decide_eq_false c39
            clear c39
            obtain rfl := Option.some.inj H
            have hcz47_0 : wc.cell? ⟨gb737, 0, none⟩ = some (.int .i64 t735) := (blk_cell BK737.out 0).trans rfl
            have hcz47_1 : wc.cell? ⟨gb737, 1, none⟩ = some (.int .i64 t736) := (blk_cell BK737.out 1).trans rfl
            have hfz47_0 := blk_frozen BK737.out 0
            have hfz47_1 := blk_frozen BK737.out 1
            go_wp2
            go_ret
            exact ⟨by first | rfl | (simp [errW_none, errW_some] <;> rfl) | (simp [*, errW_none, errW_some] <;> rfl), blx⟩
          ·rw [if_neg c38] at H
           have c38b0 : (x10_1 == 3) = false := beq_eq_false_iff_ne.mpr c38
           have c38b1 : (x10_1 != 3) = true := bne_iff_ne.mpr c38
           by_cases c48 : x10_1 = 4
           ·rw [if_pos c48] at H
            have c48b0 : (x10_1 == 4) = true := beq_iff_eq.mpr c48
            have c48b1 : (x10_1 != 4) = false := bne_eq_false_iff_eq.mpr c48
            clear c48
            by_cases c49 : (wrap64 (2 * (wrap64 ((wrap64 ((Int.tmod a0 1000001) * (Int.tmod a1 1000001))) - (wrap64 (t736 * (wrap64 (1 + (Int.tmod (wrap64 ((Int.tmod a2 1000000) + 1000000)) 1000000))))))))) < (wrap64 (1 + (Int.tmod (wrap64 ((Int.tmod a2 1000000) + 1000000)) 1000000)))
            ·rw [if_pos c49] at H
             have c49b0 : decide ((wrap64 (2 * (wrap64 ((wrap64 ((Int.tmod a0 1000001) * (Int.tmod a1 1000001))) - (wrap64 (t736 * (wrap64 (1 + (Int.tmod (wrap64 ((Int.tmod a2 1000000) + 1000000)) 1000000))))))))) < (wrap64 (1 + (Int.tmod (wrap64 ((Int.tmod a2 1000000) + 1000000)) 1000000)))) = true := decide_eq_true c49
             clear c49
             by_cases c50 : ((wrap64 (2 * (wrap64 ((wrap64 ((Int.tmod a0 1000001) * (Int.tmod a1 1000001))) - (wrap64 (t736 * (wrap64 (1 + (Int.tmod (wrap64 ((Int.tmod a2 1000000) + 1000000)) 1000000))))))))) ≥ (wrap64 (-(wrap64 (1 + (Int.tmod (wrap64 ((Int.tmod a2 1000000) + 1000000)) 1000000))))))
             ·rw [if_pos c50] at H
              have c50b0 : decide ((wrap64 (-(wrap64 (1 + (Int.tmod (wrap64 ((Int.tmod a2 1000000) + 1000000)) 1000000))))) ≤ (wrap64 (2 * (wrap64 ((wrap64 ((Int.tmod a0 1000001) * (Int.tmod a1 1000001))) - (wrap64 (t736 * (wrap64 (1 + (Int.tmod (wrap64 ((Int.tmod a2 1000000) + 1000000)) 1000000)))))))))) = true := decide_eq_true c50
              clear c50
              have H' := Aside0.mk H
              clear H
              have hcz51_0 : wc.cell? ⟨gb737, 0, none⟩ = some (.int .i64 t735) := (blk_cell BK737.out 0).trans rfl
              have hcz51_1 : wc.cell? ⟨gb737, 1, none⟩ = some (.int .i64 t736) := (blk_cell BK737.out 1).trans rfl
              have hfz51_0 := blk_frozen BK737.out 0
              have hfz51_1 := blk_frozen BK737.out 1
              go_wp2
              go_roundg kj10
              case measure => have := HK1.out; have := HJ10.out; omega
              case rel => exact ⟨(wrap64 (x10_1 + 1)), (by first | rfl | (simp; done) | (simp [*]; done)), H', ⟨by have := HK1.out; have := HJ10.out; omega⟩, ⟨blx⟩⟩
             ·rw [if_neg c50] at H
              have c50b0 : decide ((wrap64 (-(wrap64 (1 + (Int.tmod (wrap64 ((Int.tmod a2 1000000) + 1000000)) 1000000))))) ≤ (wrap64 (2 * (wrap64 ((wrap64 ((Int.tmod a0 1000001) * (Int.tmod a1 1000001))) - (wrap64 (t736 * (wrap64 (1 + (Int.tmod (wrap64 ((Int.tmod a2 1000000) + 1000000)) 1000000)))))))))) = false := decide_eq_false c50
              clear c50
              obtain rfl := Option.some.inj H
              have hcz52_0 : wc.cell? ⟨gb737, 0, none⟩ = some (.int .i64 t735) := (blk_cell BK737.out 0).trans rfl
              have hcz52_1 : wc.cell? ⟨gb737, 1, none⟩ = some (.int .i64 t736) := (blk_cell BK737.out 1).trans rfl
              have hfz52_0 := blk_frozen BK737.out 0
              have hfz52_1 := blk_frozen BK737.out 1
              go_wp2
              go_ret
              exact ⟨by first | rfl | (simp [errW_none, errW_some] <;> rfl) | (simp [*, errW_none, errW_some] <;> rfl), blx⟩
            ·rw [if_neg c49] at H
             have c49b0 : decide ((wrap64 (2 * (wrap64 ((wrap64 ((Int.tmod a0 1000001) * (Int.tmod a1 1000001))) - (wrap64 (t736 * (wrap64 (1 + (Int.tmod (wrap64 ((Int.tmod a2 1000000) + 1000000)) 1000000))))))))) < (wrap64 (1 + (Int.tmod (wrap64 ((Int.tmod a2 1000000) + 1000000)) 1000000)))) = false := decide_eq_false c49
             clear c49
             obtain rfl := Option.some.inj H
             have hcz53_0 : wc.cell? ⟨gb737, 0, none⟩ = some (.int .i64 t735) := (blk_cell BK737.out 0).trans rfl
             have hcz53_1 : wc.cell? ⟨gb737, 1, none⟩ = some (.int .i64 t736) := (blk_cell BK737.out 1).trans rfl
             have hfz53_0 := blk_frozen BK737.out 0
             have hfz53_1 := blk_frozen BK737.out 1
             go_wp2
             go_ret
             exact ⟨by first | rfl | (simp [errW_none, errW_some] <;> rfl) | (simp [*, errW_none, errW_some] <;> rfl), blx⟩
           ·rw [if_neg c48] at H
            have c48b0 : (x10_1 == 4) = false := beq_eq_false_iff_ne.mpr c48
            have c48b1 : (x10_1 != 4) = true := bne_iff_ne.mpr c48
            by_cases c54 : x10_1 = 5
            ·rw [if_pos c54] at H
             have c54b0 : (x10_1 == 5) = true := beq_iff_eq.mpr c54
             have c54b1 : (x10_1 != 5) = false := bne_eq_false_iff_eq.mpr c54
             clear c54
             by_cases c55 : (wrap64 (2 * (wrap64 ((wrap64 ((Int.tmod a0 1000001) * (Int.tmod a1 1000001))) - (wrap64 (t736 * (wrap64 (1 + (Int.tmod (wrap64 ((Int.tmod a2 1000000) + 1000000)) 1000000))))))))) ≤ (wrap64 (1 + (Int.tmod (wrap64 ((Int.tmod a2 1000000) + 1000000)) 1000000)))
             ·rw [if_pos c55] at H
              have c55b0 : decide ((wrap64 (2 * (wrap64 ((wrap64 ((Int.tmod a0 1000001) * (Int.tmod a1 1000001))) - (wrap64 (t736 * (wrap64 (1 + (Int.tmod (wrap64 ((Int.tmod a2 1000000) + 1000000)) 1000000))))))))) ≤ (wrap64 (1 + (Int.tmod (wrap64 ((Int.tmod a2 1000000) + 1000000)) 1000000)))) = true := decide_eq_true c55
              clear c55
              by_cases c56 : (wrap64 (2 * (wrap64 ((wrap64 ((Int.tmod a0 1000001) * (Int.tmod a1 1000001))) - (wrap64 (t736 * (wrap64 (1 + (Int.tmod (wrap64 ((Int.tmod a2 1000000) + 1000000)) 1000000))))))))) ≥ (wrap64 (-(wrap64 (1 + (Int.tmod (wrap64 ((Int.tmod a2 1000000) + 1000000)) 1000000)))))
              ·rw [if_pos c56] at H
               have c56b0 : decide ((wrap64 (-(wrap64 (1 + (Int.tmod (wrap64 ((Int.tmod a2 1000000) + 1000000)) 1000000))))) ≤ (wrap64 (2 * (wrap64 ((wrap64 ((Int.tmod a0 1000001) * (Int.tmod a1 1000001))) - (wrap64 (t736 * (wrap64 (1 + (Int.tmod (wrap64 ((Int.tmod a2 1000000) + 1000000)) 1000000)))))))))) = true := decide_eq_true c56
               clear c56
               by_cases c57 : (wrap64 (2 * (wrap64 ((wrap64 ((Int.tmod a0 1000001) * (Int.tmod a1 1000001))) - (wrap64 (t736 * (wrap64 (1 + (Int.tmod (wrap64 ((Int.tmod a2 1000000) + 1000000)) 1000000))))))))) = (wrap64 (1 + (Int.tmod (wrap64 ((Int.tmod a2 1000000) + 1000000)) 1000000)))
               ·rw [if_pos c57] at H
                have c57b0 : ((wrap64 (2 * (wrap64 ((wrap64 ((Int.tmod a0 1000001) * (Int.tmod a1 1000001))) - (wrap64 (t736 * (wrap64 (1 + (Int.tmod (wrap64 ((Int.tmod a2 1000000) + 1000000)) 1000000))))))))) == (wrap64 (1 + (Int.tmod (wrap64 ((Int.tmod a2 1000000) + 1000000)) 1000000)))) = true := beq_iff_eq.mpr c57
                have c57b1 : ((wrap64 (2 * (wrap64 ((wrap64 ((Int.tmod a0 1000001) * (Int.tmod a1 1000001))) - (wrap64 (t736 * (wrap64 (1 + (Int.tmod (wrap64 ((Int.tmod a2 1000000) + 1000000)) 1000000))))))))) != (wrap64 (1 + (Int.tmod (wrap64 ((Int.tmod a2 1000000) + 1000000)) 1000000)))) = false := bne_eq_false_iff_eq.mpr c57
                clear c57
                by_cases c58 : ((Int.tmod t736 2) = 0)
                ·rw [if_pos c58] at H
                 have c58b0 : ((Int.tmod t736 2) == 0) = true := beq_iff_eq.mpr c58
                 have c58b1 : ((Int.tmod t736 2) != 0) = false := bne_eq_false_iff_eq.mpr c58
                 clear c58
                 have H' := Aside0.mk H
                 clear H
                 have hcz59_0 : wc.cell? ⟨gb737, 0, none⟩ = some (.int .i64 t735) := (blk_cell BK737.out 0).trans rfl
                 have hcz59_1 : wc.cell? ⟨gb737, 1, none⟩ = some (.int .i64 t736) := (blk_cell BK737.out 1).trans rfl
                 have hfz59_0 := blk_frozen BK737.out 0
                 have hfz59_1 := blk_frozen BK737.out 1
                 go_wp2
                 go_roundg kj10
                 case measure => have := HK1.out; have := HJ10.out; omega
                 case rel => exact ⟨(wrap64 (x10_1 + 1)), (by first | rfl | (simp; done) | (simp [*]; done)), H', ⟨by have := HK1.out; have := HJ10.out; omega⟩, ⟨blx⟩⟩
                ·rw [if_neg c58] at H
                 have c58b0 : ((Int.tmod t736 2) == 0) = false := beq_eq_false_iff_ne.mpr c58
                 have c58b1 : ((Int.tmod t736 2) != 0) = true := bne_iff_ne.mpr c58
                 obtain rfl := Option.some.inj H
                 have hcz60_0 : wc.cell? ⟨gb737, 0, none⟩ = some (.int .i64 t735) := (blk_cell BK737.out 0).trans rfl
                 have hcz60_1 : wc.cell? ⟨gb737, 1, none⟩ = some (.int .i64 t736) := (blk_cell BK737.out 1).trans rfl
                 have hfz60_0 := blk_frozen BK737.out 0
                 have hfz60_1 := blk_frozen BK737.out 1
                 go_wp2
                 go_ret
                 exact ⟨by first | rfl | (simp [errW_none, errW_some] <;> rfl) | (simp [*, errW_none, errW_some] <;> rfl), blx⟩
               ·rw [if_neg c57] at H
                have c57b0 : ((wrap64 (2 * (wrap64 ((wrap64 ((Int.tmod a0 1000001) * (Int.tmod a1 1000001))) - (wrap64 (t736 * (wrap64 (1 + (Int.tmod (wrap64 ((Int.tmod a2 1000000) + 1000000)) 1000000))))))))) == (wrap64 (1 + (Int.tmod (wrap64 ((Int.tmod a2 1000000) + 1000000)) 1000000)))) = false := beq_eq_false_iff_ne.mpr c57
                have c57b1 : ((wrap64 (2 * (wrap64 ((wrap64 ((Int.tmod a0 1000001) * (Int.tmod a1 1000001))) - (wrap64 (t736 * (wrap64 (1 + (Int.tmod (wrap64 ((Int.tmod a2 1000000) + 1000000)) 1000000))))))))) != (wrap64 (1 + (Int.tmod (wrap64 ((Int.tmod a2 1000000) + 1000000)) 1000000)))) = true := bne_iff_ne.mpr c57
                by_cases c61 : (wrap64 (2 * (wrap64 ((wrap64 ((Int.tmod a0 1000001) * (Int.tmod a1 1000001))) - (wrap64 (t736 * (wrap64 (1 + (Int.tmod (wrap64 ((Int.tmod a2 1000000) + 1000000)) 1000000))))))))) = (wrap64 (-(wrap64 (1 + (Int.tmod (wrap64 ((Int.tmod a2 1000000) + 1000000)) 1000000)))))
                ·rw [if_pos c61] at H
                 have c61b0 : ((wrap64 (2 * (wrap64 ((wrap64 ((Int.tmod a0 1000001) * (Int.tmod a1 1000001))) - (wrap64 (t736 * (wrap64 (1 + (Int.tmod (wrap64 ((Int.tmod a2 1000000) + 1000000)) 1000000))))))))) == (wrap64 (-(wrap64 (1 + (Int.tmod (wrap64 ((Int.tmod a2 1000000) + 1000000)) 1000000)))))) = true := beq_iff_eq.mpr c61
                 have c61b1 : ((wrap64 (2 * (wrap64 ((wrap64 ((Int.tmod a0 1000001) * (Int.tmod a1 1000001))) - (wrap64 (t736 * (wrap64 (1 + (Int.tmod (wrap64 ((Int.tmod a2 1000000) + 1000000)) 1000000))))))))) != (wrap64 (-(wrap64 (1 + (Int.tmod (wrap64 ((Int.tmod a2 1000000) + 1000000)) 1000000)))))) = false := bne_eq_false_iff_eq.mpr c61
                 clear c61
                 by_cases c62 : ((Int.tmod t736 2) = 0)
                 ·rw [if_pos c62] at H
                  have c62b0 : ((Int.tmod t736 2) == 0) = true := beq_iff_eq.mpr c62
                  have c62b1 : ((Int.tmod t736 2) != 0) = false := bne_eq_false_iff_eq.mpr c62
                  clear c62
                  have H' := Aside0.mk H
                  clear H
                  have hcz63_0 : wc.cell? ⟨gb737, 0, none⟩ = some (.int .i64 t735) := (blk_cell BK737.out 0).trans rfl
                  have hcz63_1 : wc.cell? ⟨gb737, 1, none⟩ = some (.int .i64 t736) := (blk_cell BK737.out 1).trans rfl
                  have hfz63_0 := blk_frozen BK737.out 0
                  have hfz63_1 := blk_frozen BK737.out 1
                  go_wp2
                  go_roundg kj10
                  case measure => have := HK1.out; have := HJ10.out; omega
                  case rel => exact ⟨(wrap64 (x10_1 + 1)), (by first | rfl | (simp; done) | (simp [*]; done)), H', ⟨by have := HK1.out; have := HJ10.out; omega⟩, ⟨blx⟩⟩
                 ·rw [if_neg c62] at H
                  have c62b0 : ((Int.tmod t736 2) == 0) = false := beq_eq_false_iff_ne.mpr c62
                  have c62b1 : ((Int.tmod t736 2) != 0) = true := bne_iff_ne.mpr c62
                  obtain rfl := Option.some.inj H
                  have hcz64_0 : wc.cell? ⟨gb737, 0, none⟩ = some (.int .i64 t735) := (blk_cell BK737.out 0).trans rfl
                  have hcz64_1 : wc.cell? ⟨gb737, 1, none⟩ = some (.int .i64 t736) := (blk_cell BK737.out 1).trans rfl
                  have hfz64_0 := blk_frozen BK737.out 0
                  have hfz64_1 := blk_frozen BK737.out 1
                  go_wp2
                  go_ret
                  exact ⟨by first | rfl | (simp [errW_none, errW_some] <;> rfl) | (simp [*, errW_none, errW_some] <;> rfl), blx⟩
                ·rw [if_neg c61] at H
                 have c61b0 : ((wrap64 (2 * (wrap64 ((wrap64 ((Int.tmod a0 1000001) * (Int.tmod a1 1000001))) - (wrap64 (t736 * (wrap64 (1 + (Int.tmod (wrap64 ((Int.tmod a2 1000000) + 1000000)) 1000000))))))))) == (wrap64 (-(wrap64 (1 + (Int.tmod (wrap64 ((Int.tmod a2 1000000) + 1000000)) 1000000)))))) = false := beq_eq_false_iff_ne.mpr c61
                 have c61b1 : ((wrap64 (2 * (wrap64 ((wrap64 ((Int.tmod a0 1000001) * (Int.tmod a1 1000001))) - (wrap64 (t736 * (wrap64 (1 + (Int.tmod (wrap64 ((Int.tmod a2 1000000) + 1000000)) 1000000))))))))) != (wrap64 (-(wrap64 (1 + (Int.tmod (wrap64 ((Int.tmod a2 1000000) + 1000000)) 1000000)))))) = true := bne_iff_ne.mpr c61
                 have H' := Aside0.mk H
                 clear H
                 have hcz65_0 : wc.cell? ⟨gb737, 0, none⟩ = some (.int .i64 t735) := (blk_cell BK737.out 0).trans rfl
                 have hcz65_1 : wc.cell? ⟨gb737, 1, none⟩ = some (.int .i64 t736) := (blk_cell BK737.out 1).trans rfl
                 have hfz65_0 := blk_frozen BK737.out 0
                 have hfz65_1 := blk_frozen BK737.out 1
                 go_wp2
                 go_roundg kj10
                 case measure => have := HK1.out; have := HJ10.out; omega
                 case rel => exact ⟨(wrap64 (x10_1 + 1)), (by first | rfl | (simp; done) | (simp [*]; done)), H', ⟨by have := HK1.out; have := HJ10.out; omega⟩, ⟨blx⟩⟩
              ·rw [if_neg c56] at H
               have c56b0 : decide ((wrap64 (-(wrap64 (1 + (Int.tmod (wrap64 ((Int.tmod a2 1000000) + 1000000)) 1000000))))) ≤ (wrap64 (2 * (wrap64 ((wrap64 ((Int.tmod a0 1000001) * (Int.tmod a1 1000001))) - (wrap64 (t736 * (wrap64 (1 + (Int.tmod (wrap64 ((Int.tmod a2 1000000) + 1000000)) 1000000)))))))))) = false := decide_eq_false c56
               clear c56
               obtain rfl := Option.some.inj H
               have hcz66_0 : wc.cell? ⟨gb737, 0, none⟩ = some (.int .i64 t735) := (blk_cell BK737.out 0).trans rfl
               have hcz66_1 : wc.cell? ⟨gb737, 1, none⟩ = some (.int .i64 t736) := (blk_cell BK737.out 1).trans rfl
               have hfz66_0 := blk_frozen BK737.out 0
               have hfz66_1 := blk_frozen BK737.out 1
               go_wp2
               go_ret
               exact ⟨by first | rfl | (simp [errW_none, errW_some] <;> rfl) | (simp [*, errW_none, errW_some] <;> rfl), blx⟩
             ·rw [if_neg c55] at H
              have c55b0 : decide ((wrap64 (2 * (wrap64 ((wrap64 ((Int.tmod a0 1000001) * (Int.tmod a1 1000001))) - (wrap64 (t736 * (wrap64 (1 + (Int.tmod (wrap64 ((Int.tmod a2 1000000) + 1000000)) 1000000))))))))) ≤ (wrap64 (1 + (Int.tmod (wrap64 ((Int.tmod a2 1000000) + 1000000)) 1000000)))) = false := decide_eq_false c55
              clear c55
              obtain rfl := Option.some.inj H
              have hcz67_0 : wc.cell? ⟨gb737, 0, none⟩ = some (.int .i64 t735) := (blk_cell BK737.out 0).trans rfl
              have hcz67_1 : wc.cell? ⟨gb737, 1, none⟩ = some (.int .i64 t736) := (blk_cell BK737.out 1).trans rfl
              have hfz67_0 := blk_frozen BK737.out 0
              have hfz67_1 := blk_frozen BK737.out 1
              go_wp2
              go_ret
              exact ⟨by first | rfl | (simp [errW_none, errW_some] <;> rfl) | (simp [*, errW_none, errW_some] <;> rfl), blx⟩
            ·rw [if_neg c54] at H
             have c54b0 : (x10_1 == 5) = false := beq_eq_false_iff_ne.mpr c54
             have c54b1 : (x10_1 != 5) = true := bne_iff_ne.mpr c54
             obtain rfl := Option.some.inj H
             have hcz68_0 : wc.cell? ⟨gb737, 0, none⟩ = some (.int .i64 t735) := (blk_cell BK737.out 0).trans rfl
             have hcz68_1 : wc.cell? ⟨gb737, 1, none⟩ = some (.int .i64 t736) := (blk_cell BK737.out 1).trans rfl
             have hfz68_0 := blk_frozen BK737.out 0
             have hfz68_1 := blk_frozen BK737.out 1
             go_wp2
             go_ret
             exact ⟨by first | rfl | (simp [errW_none, errW_some] <;> rfl) | (simp [*, errW_none, errW_some] <;> rfl), blx⟩
    ·rw [if_neg c8] at H
     have c8b0 : decide (x10_1 ≤ 5) = false := decide_eq_false c8
     clear c8
     obtain rfl := Option.some.inj H
     go_wp2
     go_ret
     exact ⟨by first | rfl | (simp [errW_none, errW_some] <;> rfl) | (simp [*, errW_none, errW_some] <;> rfl), blx⟩
 ·replace c6 := Bool.eq_false_iff.mpr c6
  subst c6
  have H1 : (some false) = some r := by rw [if_neg (show ¬ (false = true) by decide)] at H; exact H
  clear H
  have H := H1
  clear H1
  obtain rfl := Option.some.inj H
  go_enter Tryd.func13, Tryd.ntmps13
  go_wp2_with (first | ((with_reducible refine gate_callee (f := 51) rfl ?_); refine goesL_ (some 14) rfl rfl Tryd.func51 (by kernel_rfl) rfl #[] rfl agx ?_; (with_reducible refine (levylaw1_known.calls k  false _ A5.out (by first | exact HG0.out | exact Kd.C_below HG0.out blx)).mono ?_); rintro e w69 ⟨rfl, hb⟩; refine ⟨_, rfl, ?_⟩; have n0_ := Aside0.mk (below_step blx hb); clear HB; have HB := n0_; clear n0_; (try clear hb); (try clear hb2); (try clear hk); (try clear hi)))
  go_ret
  exact ⟨by first | rfl | (simp [errW_none, errW_some] <;> rfl) | (simp [*, errW_none, errW_some] <;> rfl), blx⟩

end Go.Proofs.YtnjhjaifmgjljaaDoor.PM
