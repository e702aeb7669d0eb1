-- Written by a program of this session's (wip/tools/myprint.py): a function's plain form and its contract.
import Derived.Test.YtnjhjaifmgjljaaDoorPMx0
import Derived.Test.YtnjhjaifmgjljaaDoorPMx1
import Derived.Test.YtnjhjaifmgjljaaDoorPMx2
import Derived.Test.YtnjhjaifmgjljaaDoorPMx3
import Derived.Test.YtnjhjaifmgjljaaDoorPMx11
import Derived.Test.YtnjhjaifmgjljaaDoorPMx53
import Derived.Test.YtnjhjaifmgjljaaDoorPMx58
import Derived.Test.YtnjhjaifmgjljaaDoorPMx62
import Derived.Test.YtnjhjaifmgjljaaDoorPMx63
namespace Go.Proofs.YtnjhjaifmgjljaaDoor.PM
open Go.RowKit Go.Proofs.YtnjhjaifmgjljaaDoorW.PrintWords Go.Proofs.YtnjhjaifmgjljaaDoorW.PrintLast Go.Proofs.YtnjhjaifmgjljaaDoorW.PrintMore
attribute [local go_sem] max2_int min2_int max_two min_two max_three min_three max_four min_four   -- for this text's walks alone
set_option linter.unusedVariables false
set_option linter.unusedSimpArgs false

attribute [local go_sem high] eqA23
/-! ### levylaw1_known: function 51 -/
mutual
def levylaw1_known.j0 : Nat → Bool → Option (Bool)
 | 0, _ => none
 | k + 1, x1 => (levylaw1_c.f 105).bind fun bt703 => ((money_Scale.f k bt703.1 bt703.2 1 10 5).bind fun bt705 => ((levylaw1_c.f 10).bind fun bt707 => (if (bt705.1 == bt707.1 && (bt705.2 == bt707.2)) = true then ((levylaw1_c.f (-105)).bind fun bt709 => ((money_Scale.f k bt709.1 bt709.2 1 10 1).bind fun bt711 => ((levylaw1_c.f (-11)).bind fun bt713 => (if (bt711.1 == bt713.1 && (bt711.2 == bt713.2)) = true then ((levylaw1_c.f 1).bind fun bt715 => ((money_Split.f k bt715.1 bt715.2 2 0 2).bind fun bt717 => (levylaw1_known.j1 k x1 (bt717.1 == 6 && (bt717.2 == 2))))) else (levylaw1_known.j1 k x1 false))))) else (levylaw1_known.j1 k x1 false))))
def levylaw1_known.j1 : Nat → Bool → Bool → Option (Bool)
 | 0, _, _ => none
 | k + 1, x1, x2 => if x1 = true then (if x2 = true then ((levylaw1_c.f 1000002).bind fun bt722 => ((money_Bracket.f k (([(⟨0, 100000⟩ : S72), (⟨1000000, 250000⟩ : S72)] : List (S72))) bt722.1 bt722.2).bind fun bt724 => ((levylaw1_c.f 100001).bind fun bt726 => (if (bt724.1 == bt726.1 && (bt724.2 == bt726.2)) = true then ((levylaw1_c.f 5).bind fun bt728 => ((money_Valid.f bt728.1 bt728.2).bind fun t730 => (if t730 = true then ((money_Valid.f 7 0).bind fun t731 => (some (!t731))) else (some false)))) else (some false))))) else (some false)) else (some false)
end
def levylaw1_known.f (k : Nat)  : Option (Bool) := (levylaw1_c.f 2).bind fun bt689 => ((levylaw1_c.f 3).bind fun bt691 => ((money_Add.f k bt689.1 bt689.2 bt691.1 bt691.2).bind fun bt693 => ((levylaw1_c.f 5).bind fun bt695 => (if (bt693.1 == bt695.1 && (bt693.2 == bt695.2)) = true then ((levylaw1_c.f 9999999999999).bind fun bt697 => ((levylaw1_c.f 1).bind fun bt699 => ((money_Add.f k bt697.1 bt697.2 bt699.1 bt699.2).bind fun bt701 => (levylaw1_known.j0 k (bt701.1 == 6 && (bt701.2 == 1)))))) else (levylaw1_known.j0 k false)))))
theorem levylaw1_known.mono_l : ∀ k, (∀ y0, LeO (levylaw1_known.j0 k y0) (levylaw1_known.j0 (k + 1) y0)) ∧ (∀ y0 y1, LeO (levylaw1_known.j1 k y0 y1) (levylaw1_known.j1 (k + 1) y0 y1))
 | 0 => ⟨fun _ r h => by simp [levylaw1_known.j0] at h, fun _ _ r h => by simp [levylaw1_known.j1] at h⟩
 | k + 1 => by
  obtain ⟨ih0, ih1⟩ := levylaw1_known.mono_l k
  refine ⟨?_, ?_⟩
  ·intro y0
   unfold levylaw1_known.j0
   repeat' first
   | (with_reducible exact ih0 _)
   | (with_reducible exact ih1 _ _)
   | (with_reducible exact money_Add.mono _ _ _ _ _)
   | (with_reducible exact money_Bracket.mono _ _ _ _)
   | (with_reducible exact money_Scale.mono _ _ _ _ _ _)
   | (with_reducible exact money_Split.mono _ _ _ _ _ _)
   | (with_reducible exact LeO.refl _)
   | (with_reducible exact LeO.none _)
   | (with_reducible refine LeO.ite ?_ ?_)
   | (with_reducible refine LeO.bind ?_ (fun _ => ?_))
   | exact ih0 _
   | exact ih1 _ _
   | exact money_Add.mono _ _ _ _ _
   | exact money_Bracket.mono _ _ _ _
   | exact money_Scale.mono _ _ _ _ _ _
   | exact money_Split.mono _ _ _ _ _ _
   | exact LeO.none _
   | refine LeO.ite ?_ ?_
   | refine LeO.bind ?_ (fun _ => ?_)
  ·intro y0 y1
   unfold levylaw1_known.j1
   repeat' first
   | (with_reducible exact ih0 _)
   | (with_reducible exact ih1 _ _)
   | (with_reducible exact money_Add.mono _ _ _ _ _)
   | (with_reducible exact money_Bracket.mono _ _ _ _)
   | (with_reducible exact money_Scale.mono _ _ _ _ _ _)
   | (with_reducible exact money_Split.mono _ _ _ _ _ _)
   | (with_reducible exact LeO.refl _)
   | (with_reducible exact LeO.none _)
   | (with_reducible refine LeO.ite ?_ ?_)
   | (with_reducible refine LeO.bind ?_ (fun _ => ?_))
   | exact ih0 _
   | exact ih1 _ _
   | exact money_Add.mono _ _ _ _ _
   | exact money_Bracket.mono _ _ _ _
   | exact money_Scale.mono _ _ _ _ _ _
   | exact money_Split.mono _ _ _ _ _ _
   | exact LeO.none _
   | refine LeO.ite ?_ ?_
   | refine LeO.bind ?_ (fun _ => ?_)
theorem levylaw1_known.mono : ∀ k, LeO (levylaw1_known.f k ) (levylaw1_known.f (k + 1) ) := by
 intro  k
 obtain ⟨ih0, ih1⟩ := levylaw1_known.mono_l k
 unfold levylaw1_known.f
 repeat' first
   | (with_reducible exact ih0 _)
   | (with_reducible exact ih1 _ _)
   | (with_reducible exact money_Add.mono _ _ _ _ _)
   | (with_reducible exact money_Bracket.mono _ _ _ _)
   | (with_reducible exact money_Scale.mono _ _ _ _ _ _)
   | (with_reducible exact money_Split.mono _ _ _ _ _ _)
   | (with_reducible exact LeO.refl _)
   | (with_reducible exact LeO.none _)
   | (with_reducible refine LeO.ite ?_ ?_)
   | (with_reducible refine LeO.bind ?_ (fun _ => ?_))
   | exact ih0 _
   | exact ih1 _ _
   | exact money_Add.mono _ _ _ _ _
   | exact money_Bracket.mono _ _ _ _
   | exact money_Scale.mono _ _ _ _ _ _
   | exact money_Split.mono _ _ _ _ _ _
   | exact LeO.none _
   | refine LeO.ite ?_ ?_
   | refine LeO.bind ?_ (fun _ => ?_)
set_option maxHeartbeats 8000000 in
set_option maxRecDepth 100000 in
theorem levylaw1_known.calls (k : Nat)  (r : Bool) (w : World) (h : levylaw1_known.f k  = some r) (hg0 : Kd.C k87 w (some ⟨0, 0, none⟩) gtab0.length gtab0) :
  Calls Tryd.prog 51 #[] w fun e w' => e = .returned (.bool r) ∧ Below w.heap.size w w' := by
 have HG0 := Aside0.mk hg0
 clear hg0
 have hu23 := Tryd.underlying23
 have hu72 := Tryd.underlying72
 have HB := Aside0.mk (Below.refl w.heap.size w)
 have H : ((levylaw1_c.f 2).bind fun bt689 => ((levylaw1_c.f 3).bind fun bt691 => ((money_Add.f k bt689.1 bt689.2 bt691.1 bt691.2).bind fun bt693 => ((levylaw1_c.f 5).bind fun bt695 => (if (bt693.1 == bt695.1 && (bt693.2 == bt695.2)) = true then ((levylaw1_c.f 9999999999999).bind fun bt697 => ((levylaw1_c.f 1).bind fun bt699 => ((money_Add.f k bt697.1 bt697.2 bt699.1 bt699.2).bind fun bt701 => (levylaw1_known.j0 k (bt701.1 == 6 && (bt701.2 == 1)))))) else (levylaw1_known.j0 k false)))))) = some r := h
 clear h
 have HC1 := Aside0.mk H
 clear H
 go_enter Tryd.func51, Tryd.ntmps51
 go_upto_region 1 with (fail)
 go_cut [1] (fun v1 wc => ∃ (kq : Nat) (x1_0 : Bool), v1 = .bool x1_0 ∧ Aside0 (levylaw1_known.j0 kq x1_0 = some r) ∧ Aside0 (kq ≤ k) ∧ Aside0 (Below w.heap.size w wc))
 case first =>
  have H := HC1.out
  clear HC1
  replace H := Option.bind_eq_some_iff.mp H
  obtain ⟨⟨t689, t690⟩, A20, H⟩ := H
  replace H : ((levylaw1_c.f 3).bind fun bt691 => ((money_Add.f k t689 t690 bt691.1 bt691.2).bind fun bt693 => ((levylaw1_c.f 5).bind fun bt695 => (if (bt693.1 == bt695.1 && (bt693.2 == bt695.2)) = true then ((levylaw1_c.f 9999999999999).bind fun bt697 => ((levylaw1_c.f 1).bind fun bt699 => ((money_Add.f k bt697.1 bt697.2 bt699.1 bt699.2).bind fun bt701 => (levylaw1_known.j0 k (bt701.1 == 6 && (bt701.2 == 1)))))) else (levylaw1_known.j0 k false))))) = some r := H
  have A2 := Aside0.mk A20
  clear A20
  replace H := Option.bind_eq_some_iff.mp H
  obtain ⟨⟨t691, t692⟩, A30, H⟩ := H
  replace H : ((money_Add.f k t689 t690 t691 t692).bind fun bt693 => ((levylaw1_c.f 5).bind fun bt695 => (if (bt693.1 == bt695.1 && (bt693.2 == bt695.2)) = true then ((levylaw1_c.f 9999999999999).bind fun bt697 => ((levylaw1_c.f 1).bind fun bt699 => ((money_Add.f k bt697.1 bt697.2 bt699.1 bt699.2).bind fun bt701 => (levylaw1_known.j0 k (bt701.1 == 6 && (bt701.2 == 1)))))) else (levylaw1_known.j0 k false)))) = some r := H
  have A3 := Aside0.mk A30
  clear A30
  replace H := Option.bind_eq_some_iff.mp H
  obtain ⟨⟨t693, t694⟩, A40, H⟩ := H
  replace H : ((levylaw1_c.f 5).bind fun bt695 => (if (t693 == bt695.1 && (t694 == bt695.2)) = true then ((levylaw1_c.f 9999999999999).bind fun bt697 => ((levylaw1_c.f 1).bind fun bt699 => ((money_Add.f k bt697.1 bt697.2 bt699.1 bt699.2).bind fun bt701 => (levylaw1_known.j0 k (bt701.1 == 6 && (bt701.2 == 1)))))) else (levylaw1_known.j0 k false))) = some r := H
  have A4 := Aside0.mk A40
  clear A40
  replace H := Option.bind_eq_some_iff.mp H
  obtain ⟨⟨t695, t696⟩, A50, H⟩ := H
  replace H : (if (t693 == t695 && (t694 == t696)) = true then ((levylaw1_c.f 9999999999999).bind fun bt697 => ((levylaw1_c.f 1).bind fun bt699 => ((money_Add.f k bt697.1 bt697.2 bt699.1 bt699.2).bind fun bt701 => (levylaw1_known.j0 k (bt701.1 == 6 && (bt701.2 == 1)))))) else (levylaw1_known.j0 k false)) = some r := H
  have A5 := Aside0.mk A50
  clear A50
  by_cases c6 : (t693 == t695 && (t694 == t696)) = true
  ·rw [if_pos c6] at H
   have c6b0 : (t693 == t695 && (t694 == t696)) = true := c6
   (try (have c6b1 : decide (t693 = t695 && (t694 == t696)) = true := by simpa using c6))
   (try (have c6b2 : (t693 == t695 && (t694 == t696)) = true := by simpa using c6))
   clear c6
   (first | rw [c6b0] | (simp only [i64_w, i32_w]; rw [c6b0]) | skip)
   replace H := Option.bind_eq_some_iff.mp H
   obtain ⟨⟨t697, t698⟩, A70, H⟩ := H
   replace H : ((levylaw1_c.f 1).bind fun bt699 => ((money_Add.f k t697 t698 bt699.1 bt699.2).bind fun bt701 => (levylaw1_known.j0 k (bt701.1 == 6 && (bt701.2 == 1))))) = some r := H
   have A7 := Aside0.mk A70
   clear A70
   replace H := Option.bind_eq_some_iff.mp H
   obtain ⟨⟨t699, t700⟩, A80, H⟩ := H
   replace H : ((money_Add.f k t697 t698 t699 t700).bind fun bt701 => (levylaw1_known.j0 k (bt701.1 == 6 && (bt701.2 == 1)))) = some r := H
   have A8 := Aside0.mk A80
   clear A80
   replace H := Option.bind_eq_some_iff.mp H
   obtain ⟨⟨t701, t702⟩, A90, H⟩ := H
   replace H : (levylaw1_known.j0 k (t701 == 6 && (t702 == 1))) = some r := H
   have A9 := Aside0.mk A90
   clear A90
   have H' := Aside0.mk H
   clear H
   go_wp2_with (first | ((with_reducible refine gate_callee (f := 52) rfl ?_); refine goesL_ (some 4) rfl rfl Tryd.func52 (by kernel_rfl) rfl #[.int .i64 2] rfl agx ?_; (with_reducible refine (levylaw1_c.calls 2 t689 t690 _ A2.out).mono ?_); rintro e w10 ⟨rfl, hb⟩; refine ⟨_, rfl, ?_⟩; have n0_ := Aside0.mk (below_step blx hb); clear HB; have HB := n0_; clear n0_; (try clear hb); (try clear hb2); (try clear hk); (try clear hi)) | ((with_reducible refine gate_callee (f := 52) rfl ?_); refine goesL_ (some 5) rfl rfl Tryd.func52 (by kernel_rfl) rfl #[.int .i64 3] rfl agx ?_; (with_reducible refine (levylaw1_c.calls 3 t691 t692 _ A3.out).mono ?_); rintro e w11 ⟨rfl, hb⟩; refine ⟨_, rfl, ?_⟩; have n0_ := Aside0.mk (below_step blx hb); clear HB; have HB := n0_; clear n0_; (try clear hb); (try clear hb2); (try clear hk); (try clear hi)) | ((with_reducible refine gate_callee (f := 23) rfl ?_); refine goesL_ (some 6) rfl rfl Tryd.func23 (by kernel_rfl) rfl #[.agg #[.int .i64 t689, .int .i64 t690], .agg #[.int .i64 t691, .int .i64 t692]] rfl agx ?_; (with_reducible refine (money_Add.calls k t689 t690 t691 t692 t693 t694 _ A4.out (by first | exact HG0.out | exact Kd.C_below HG0.out blx)).mono ?_); rintro e w12 ⟨rfl, hb⟩; refine ⟨_, rfl, ?_⟩; have n0_ := Aside0.mk (below_step blx hb); clear HB; have HB := n0_; clear n0_; (try clear hb); (try clear hb2); (try clear hk); (try clear hi)) | ((with_reducible refine gate_callee (f := 52) rfl ?_); refine goesL_ (some 7) rfl rfl Tryd.func52 (by kernel_rfl) rfl #[.int .i64 5] rfl agx ?_; (with_reducible refine (levylaw1_c.calls 5 t695 t696 _ A5.out).mono ?_); rintro e w13 ⟨rfl, hb⟩; refine ⟨_, rfl, ?_⟩; have n0_ := Aside0.mk (below_step blx hb); clear HB; have HB := n0_; clear n0_; (try clear hb); (try clear hb2); (try clear hk); (try clear hi)) | (go_at_call 52; (with_reducible refine (levylaw1_c.calls 9999999999999 t697 t698 _ A7.out).mono ?_); rintro e w14 ⟨rfl, hb⟩; have n0_ := Aside0.mk (below_step blx hb); clear HB; have HB := n0_; clear n0_; (try clear hb); (try clear hb2); (try clear hk); (try clear hi)) | (go_at_call 52; (with_reducible refine (levylaw1_c.calls 1 t699 t700 _ A8.out).mono ?_); rintro e w15 ⟨rfl, hb⟩; have n0_ := Aside0.mk (below_step blx hb); clear HB; have HB := n0_; clear n0_; (try clear hb); (try clear hb2); (try clear hk); (try clear hi)) | (go_at_call 23; (with_reducible refine (money_Add.calls k t697 t698 t699 t700 t701 t702 _ A9.out (by first | exact HG0.out | exact Kd.C_below HG0.out blx)).mono ?_); rintro e w16 ⟨rfl, hb⟩; have n0_ := Aside0.mk (below_step blx hb); clear HB; have HB := n0_; clear n0_; (try clear hb); (try clear hb2); (try clear hk); (try clear hi)))
   go_meet
   case rel => exact ⟨_, ((t701 == 6 && (t702 == 1))), (by first | rfl | (simp; done) | (simp [*]; done)), H', ⟨by first | omega | exact Nat.le_refl _⟩, ⟨blx⟩⟩
  ·rw [if_neg c6] at H
   have c6b0 : (t693 == t695 && (t694 == t696)) = false := by simpa using c6
   (try (have c6b1 : decide (t693 = t695 && (t694 == t696)) = false := by simpa using c6))
   (try (have c6b2 : (t693 == t695 && (t694 == t696)) = false := by simpa using c6))
   (try (have c6b3 : ¬ (t693 = t695 && (t694 == t696)) := by simpa using c6))
   clear c6
   (first | rw [c6b0] | (simp only [i64_w, i32_w]; rw [c6b0]) | skip)
   have H' := Aside0.mk H
   clear H
   go_wp2_with (first | ((with_reducible refine gate_callee (f := 52) rfl ?_); refine goesL_ (some 4) rfl rfl Tryd.func52 (by kernel_rfl) rfl #[.int .i64 2] rfl agx ?_; (with_reducible refine (levylaw1_c.calls 2 t689 t690 _ A2.out).mono ?_); rintro e w17 ⟨rfl, hb⟩; refine ⟨_, rfl, ?_⟩; have n0_ := Aside0.mk (below_step blx hb); clear HB; have HB := n0_; clear n0_; (try clear hb); (try clear hb2); (try clear hk); (try clear hi)) | ((with_reducible refine gate_callee (f := 52) rfl ?_); refine goesL_ (some 5) rfl rfl Tryd.func52 (by kernel_rfl) rfl #[.int .i64 3] rfl agx ?_; (with_reducible refine (levylaw1_c.calls 3 t691 t692 _ A3.out).mono ?_); rintro e w18 ⟨rfl, hb⟩; refine ⟨_, rfl, ?_⟩; have n0_ := Aside0.mk (below_step blx hb); clear HB; have HB := n0_; clear n0_; (try clear hb); (try clear hb2); (try clear hk); (try clear hi)) | ((with_reducible refine gate_callee (f := 23) rfl ?_); refine goesL_ (some 6) rfl rfl Tryd.func23 (by kernel_rfl) rfl #[.agg #[.int .i64 t689, .int .i64 t690], .agg #[.int .i64 t691, .int .i64 t692]] rfl agx ?_; (with_reducible refine (money_Add.calls k t689 t690 t691 t692 t693 t694 _ A4.out (by first | exact HG0.out | exact Kd.C_below HG0.out blx)).mono ?_); rintro e w19 ⟨rfl, hb⟩; refine ⟨_, rfl, ?_⟩; have n0_ := Aside0.mk (below_step blx hb); clear HB; have HB := n0_; clear n0_; (try clear hb); (try clear hb2); (try clear hk); (try clear hi)) | ((with_reducible refine gate_callee (f := 52) rfl ?_); refine goesL_ (some 7) rfl rfl Tryd.func52 (by kernel_rfl) rfl #[.int .i64 5] rfl agx ?_; (with_reducible refine (levylaw1_c.calls 5 t695 t696 _ A5.out).mono ?_); rintro e w20 ⟨rfl, hb⟩; refine ⟨_, rfl, ?_⟩; have n0_ := Aside0.mk (below_step blx hb); clear HB; have HB := n0_; clear n0_; (try clear hb); (try clear hb2); (try clear hk); (try clear hi)))
   go_meet
   case rel => exact ⟨_, (false), (by first | rfl | (simp; done) | (simp [*]; done)), H', ⟨by first | omega | exact Nat.le_refl _⟩, ⟨blx⟩⟩
 case rest =>
  clear HC1
  try clear c2
  try clear p2
  try clear c5
  try clear c6
  try clear c6b0
  try clear c6b1
  try clear c6b2
  obtain ⟨kq, x1_0, rfl, HA, HJ0, HB⟩ := hcut
  cases kq with
  | zero => exact absurd HA.out (by simp [levylaw1_known.j0])
  | succ kj0 =>
   have H := HA.out
   clear HA
   simp only [levylaw1_known.j0] at H
   have HC21 := Aside0.mk H
   clear H
   go_upto_region 2 with (fail)
   go_cut [2] (fun v2 wc => ∃ (kq : Nat) (x2_20 : Bool), v2 = .bool x2_20 ∧ Aside0 (levylaw1_known.j1 kq x1_0 x2_20 = some r) ∧ Aside0 (kq ≤ kj0) ∧ Aside0 (Below w.heap.size w wc))
   case first =>
    have H := HC21.out
    clear HC21
    replace H := Option.bind_eq_some_iff.mp H
    obtain ⟨⟨t703, t704⟩, A220, H⟩ := H
    replace H : ((money_Scale.f kj0 t703 t704 1 10 5).bind fun bt705 => ((levylaw1_c.f 10).bind fun bt707 => (if (bt705.1 == bt707.1 && (bt705.2 == bt707.2)) = true then ((levylaw1_c.f (-105)).bind fun bt709 => ((money_Scale.f kj0 bt709.1 bt709.2 1 10 1).bind fun bt711 => ((levylaw1_c.f (-11)).bind fun bt713 => (if (bt711.1 == bt713.1 && (bt711.2 == bt713.2)) = true then ((levylaw1_c.f 1).bind fun bt715 => ((money_Split.f kj0 bt715.1 bt715.2 2 0 2).bind fun bt717 => (levylaw1_known.j1 kj0 x1_0 (bt717.1 == 6 && (bt717.2 == 2))))) else (levylaw1_known.j1 kj0 x1_0 false))))) else (levylaw1_known.j1 kj0 x1_0 false)))) = some r := H
    have A22 := Aside0.mk A220
    clear A220
    replace H := Option.bind_eq_some_iff.mp H
    obtain ⟨⟨t705, t706⟩, A230, H⟩ := H
    replace H : ((levylaw1_c.f 10).bind fun bt707 => (if (t705 == bt707.1 && (t706 == bt707.2)) = true then ((levylaw1_c.f (-105)).bind fun bt709 => ((money_Scale.f kj0 bt709.1 bt709.2 1 10 1).bind fun bt711 => ((levylaw1_c.f (-11)).bind fun bt713 => (if (bt711.1 == bt713.1 && (bt711.2 == bt713.2)) = true then ((levylaw1_c.f 1).bind fun bt715 => ((money_Split.f kj0 bt715.1 bt715.2 2 0 2).bind fun bt717 => (levylaw1_known.j1 kj0 x1_0 (bt717.1 == 6 && (bt717.2 == 2))))) else (levylaw1_known.j1 kj0 x1_0 false))))) else (levylaw1_known.j1 kj0 x1_0 false))) = some r := H
    have A23 := Aside0.mk A230
    clear A230
    replace H := Option.bind_eq_some_iff.mp H
    obtain ⟨⟨t707, t708⟩, A240, H⟩ := H
    replace H : (if (t705 == t707 && (t706 == t708)) = true then ((levylaw1_c.f (-105)).bind fun bt709 => ((money_Scale.f kj0 bt709.1 bt709.2 1 10 1).bind fun bt711 => ((levylaw1_c.f (-11)).bind fun bt713 => (if (bt711.1 == bt713.1 && (bt711.2 == bt713.2)) = true then ((levylaw1_c.f 1).bind fun bt715 => ((money_Split.f kj0 bt715.1 bt715.2 2 0 2).bind fun bt717 => (levylaw1_known.j1 kj0 x1_0 (bt717.1 == 6 && (bt717.2 == 2))))) else (levylaw1_known.j1 kj0 x1_0 false))))) else (levylaw1_known.j1 kj0 x1_0 false)) = some r := H
    have A24 := Aside0.mk A240
    clear A240
    by_cases c25 : (t705 == t707 && (t706 == t708)) = true
    ·rw [if_pos c25] at H
     have c25b0 : (t705 == t707 && (t706 == t708)) = true := c25
     (try (have c25b1 : decide (t705 = t707 && (t706 == t708)) = true := by simpa using c25))
     (try (have c25b2 : (t705 == t707 && (t706 == t708)) = true := by simpa using c25))
     clear c25
     (first | rw [c25b0] | (simp only [i64_w, i32_w]; rw [c25b0]) | skip)
     replace H := Option.bind_eq_some_iff.mp H
     obtain ⟨⟨t709, t710⟩, A260, H⟩ := H
     replace H : ((money_Scale.f kj0 t709 t710 1 10 1).bind fun bt711 => ((levylaw1_c.f (-11)).bind fun bt713 => (if (bt711.1 == bt713.1 && (bt711.2 == bt713.2)) = true then ((levylaw1_c.f 1).bind fun bt715 => ((money_Split.f kj0 bt715.1 bt715.2 2 0 2).bind fun bt717 => (levylaw1_known.j1 kj0 x1_0 (bt717.1 == 6 && (bt717.2 == 2))))) else (levylaw1_known.j1 kj0 x1_0 false)))) = some r := H
     have A26 := Aside0.mk A260
     clear A260
     replace H := Option.bind_eq_some_iff.mp H
     obtain ⟨⟨t711, t712⟩, A270, H⟩ := H
     replace H : ((levylaw1_c.f (-11)).bind fun bt713 => (if (t711 == bt713.1 && (t712 == bt713.2)) = true then ((levylaw1_c.f 1).bind fun bt715 => ((money_Split.f kj0 bt715.1 bt715.2 2 0 2).bind fun bt717 => (levylaw1_known.j1 kj0 x1_0 (bt717.1 == 6 && (bt717.2 == 2))))) else (levylaw1_known.j1 kj0 x1_0 false))) = some r := H
     have A27 := Aside0.mk A270
     clear A270
     replace H := Option.bind_eq_some_iff.mp H
     obtain ⟨⟨t713, t714⟩, A280, H⟩ := H
     replace H : (if (t711 == t713 && (t712 == t714)) = true then ((levylaw1_c.f 1).bind fun bt715 => ((money_Split.f kj0 bt715.1 bt715.2 2 0 2).bind fun bt717 => (levylaw1_known.j1 kj0 x1_0 (bt717.1 == 6 && (bt717.2 == 2))))) else (levylaw1_known.j1 kj0 x1_0 false)) = some r := H
     have A28 := Aside0.mk A280
     clear A280
     by_cases c29 : (t711 == t713 && (t712 == t714)) = true
     ·rw [if_pos c29] at H
      have c29b0 : (t711 == t713 && (t712 == t714)) = true := c29
      (try (have c29b1 : decide (t711 = t713 && (t712 == t714)) = true := by simpa using c29))
      (try (have c29b2 : (t711 == t713 && (t712 == t714)) = true := by simpa using c29))
      clear c29
      replace H := Option.bind_eq_some_iff.mp H
      obtain ⟨⟨t715, t716⟩, A300, H⟩ := H
      replace H : ((money_Split.f kj0 t715 t716 2 0 2).bind fun bt717 => (levylaw1_known.j1 kj0 x1_0 (bt717.1 == 6 && (bt717.2 == 2)))) = some r := H
      have A30 := Aside0.mk A300
      clear A300
      replace H := Option.bind_eq_some_iff.mp H
      obtain ⟨⟨t717, t718⟩, A310, H⟩ := H
      replace H : (levylaw1_known.j1 kj0 x1_0 (t717 == 6 && (t718 == 2))) = some r := H
      have A31 := Aside0.mk A310
      clear A310
      have H' := Aside0.mk H
      clear H
      go_wp2_with (first | ((with_reducible refine gate_callee (f := 52) rfl ?_); refine goesL_ (some 16) rfl rfl Tryd.func52 (by kernel_rfl) rfl #[.int .i64 105] rfl agx ?_; (with_reducible refine (levylaw1_c.calls 105 t703 t704 _ A22.out).mono ?_); rintro e w32 ⟨rfl, hb⟩; refine ⟨_, rfl, ?_⟩; have n0_ := Aside0.mk (below_step blx hb); clear HB; have HB := n0_; clear n0_; (try clear hb); (try clear hb2); (try clear hk); (try clear hi)) | ((with_reducible refine gate_callee (f := 49) rfl ?_); refine goesL_ (some 17) rfl rfl Tryd.func49 (by kernel_rfl) rfl #[.agg #[.int .i64 t703, .int .i64 t704], .int .i64 1, .int .i64 10, .int .i64 5] rfl agx ?_; (with_reducible refine (money_Scale.calls kj0 t703 t704 1 10 5 t705 t706 _ A23.out (by first | exact HG0.out | exact Kd.C_below HG0.out blx)).mono ?_); rintro e w33 ⟨rfl, hb⟩; refine ⟨_, rfl, ?_⟩; have n0_ := Aside0.mk (below_step blx hb); clear HB; have HB := n0_; clear n0_; (try clear hb); (try clear hb2); (try clear hk); (try clear hi)) | ((with_reducible refine gate_callee (f := 52) rfl ?_); refine goesL_ (some 18) rfl rfl Tryd.func52 (by kernel_rfl) rfl #[.int .i64 10] rfl agx ?_; (with_reducible refine (levylaw1_c.calls 10 t707 t708 _ A24.out).mono ?_); rintro e w34 ⟨rfl, hb⟩; refine ⟨_, rfl, ?_⟩; have n0_ := Aside0.mk (below_step blx hb); clear HB; have HB := n0_; clear n0_; (try clear hb); (try clear hb2); (try clear hk); (try clear hi)) | (go_at_call 52; (with_reducible refine (levylaw1_c.calls (-105) t709 t710 _ A26.out).mono ?_); rintro e w35 ⟨rfl, hb⟩; have n0_ := Aside0.mk (below_step blx hb); clear HB; have HB := n0_; clear n0_; (try clear hb); (try clear hb2); (try clear hk); (try clear hi)) | (go_at_call 49; (with_reducible refine (money_Scale.calls kj0 t709 t710 1 10 1 t711 t712 _ A27.out (by first | exact HG0.out | exact Kd.C_below HG0.out blx)).mono ?_); rintro e w36 ⟨rfl, hb⟩; have n0_ := Aside0.mk (below_step blx hb); clear HB; have HB := n0_; clear n0_; (try clear hb); (try clear hb2); (try clear hk); (try clear hi)) | (go_at_call 52; (with_reducible refine (levylaw1_c.calls (-11) t713 t714 _ A28.out).mono ?_); rintro e w37 ⟨rfl, hb⟩; have n0_ := Aside0.mk (below_step blx hb); clear HB; have HB := n0_; clear n0_; (try clear hb); (try clear hb2); (try clear hk); (try clear hi)) | (go_at_call 52; (with_reducible refine (levylaw1_c.calls 1 t715 t716 _ A30.out).mono ?_); rintro e w38 ⟨rfl, hb⟩; have n0_ := Aside0.mk (below_step blx hb); clear HB; have HB := n0_; clear n0_; (try clear hb); (try clear hb2); (try clear hk); (try clear hi)) | (go_at_call 47; (with_reducible refine (money_Split.calls kj0 t715 t716 2 0 2 t717 t718 _ A31.out (by first | exact HG0.out | exact Kd.C_below HG0.out blx)).mono ?_); rintro e w39 ⟨rfl, hb⟩; have n0_ := Aside0.mk (below_step blx hb); clear HB; have HB := n0_; clear n0_; (try clear hb); (try clear hb2); (try clear hk); (try clear hi)))
      go_meet
      case rel => exact ⟨_, ((t717 == 6 && (t718 == 2))), (by first | rfl | (simp; done) | (simp [*]; done)), H', ⟨by have := HJ0.out; first | omega | exact Nat.le_refl _⟩, ⟨blx⟩⟩
     ·rw [if_neg c29] at H
      have c29b0 : (t711 == t713 && (t712 == t714)) = false := by simpa using c29
      (try (have c29b1 : decide (t711 = t713 && (t712 == t714)) = false := by simpa using c29))
      (try (have c29b2 : (t711 == t713 && (t712 == t714)) = false := by simpa using c29))
      (try (have c29b3 : ¬ (t711 = t713 && (t712 == t714)) := by simpa using c29))
      clear c29
      have H' := Aside0.mk H
      clear H
      go_wp2_with (first | ((with_reducible refine gate_callee (f := 52) rfl ?_); refine goesL_ (some 16) rfl rfl Tryd.func52 (by kernel_rfl) rfl #[.int .i64 105] rfl agx ?_; (with_reducible refine (levylaw1_c.calls 105 t703 t704 _ A22.out).mono ?_); rintro e w40 ⟨rfl, hb⟩; refine ⟨_, rfl, ?_⟩; have n0_ := Aside0.mk (below_step blx hb); clear HB; have HB := n0_; clear n0_; (try clear hb); (try clear hb2); (try clear hk); (try clear hi)) | ((with_reducible refine gate_callee (f := 49) rfl ?_); refine goesL_ (some 17) rfl rfl Tryd.func49 (by kernel_rfl) rfl #[.agg #[.int .i64 t703, .int .i64 t704], .int .i64 1, .int .i64 10, .int .i64 5] rfl agx ?_; (with_reducible refine (money_Scale.calls kj0 t703 t704 1 10 5 t705 t706 _ A23.out (by first | exact HG0.out | exact Kd.C_below HG0.out blx)).mono ?_); rintro e w41 ⟨rfl, hb⟩; refine ⟨_, rfl, ?_⟩; have n0_ := Aside0.mk (below_step blx hb); clear HB; have HB := n0_; clear n0_; (try clear hb); (try clear hb2); (try clear hk); (try clear hi)) | ((with_reducible refine gate_callee (f := 52) rfl ?_); refine goesL_ (some 18) rfl rfl Tryd.func52 (by kernel_rfl) rfl #[.int .i64 10] rfl agx ?_; (with_reducible refine (levylaw1_c.calls 10 t707 t708 _ A24.out).mono ?_); rintro e w42 ⟨rfl, hb⟩; refine ⟨_, rfl, ?_⟩; have n0_ := Aside0.mk (below_step blx hb); clear HB; have HB := n0_; clear n0_; (try clear hb); (try clear hb2); (try clear hk); (try clear hi)) | (go_at_call 52; (with_reducible refine (levylaw1_c.calls (-105) t709 t710 _ A26.out).mono ?_); rintro e w43 ⟨rfl, hb⟩; have n0_ := Aside0.mk (below_step blx hb); clear HB; have HB := n0_; clear n0_; (try clear hb); (try clear hb2); (try clear hk); (try clear hi)) | (go_at_call 49; (with_reducible refine (money_Scale.calls kj0 t709 t710 1 10 1 t711 t712 _ A27.out (by first | exact HG0.out | exact Kd.C_below HG0.out blx)).mono ?_); rintro e w44 ⟨rfl, hb⟩; have n0_ := Aside0.mk (below_step blx hb); clear HB; have HB := n0_; clear n0_; (try clear hb); (try clear hb2); (try clear hk); (try clear hi)) | (go_at_call 52; (with_reducible refine (levylaw1_c.calls (-11) t713 t714 _ A28.out).mono ?_); rintro e w45 ⟨rfl, hb⟩; have n0_ := Aside0.mk (below_step blx hb); clear HB; have HB := n0_; clear n0_; (try clear hb); (try clear hb2); (try clear hk); (try clear hi)))
      go_meet
      case rel => exact ⟨_, (false), (by first | rfl | (simp; done) | (simp [*]; done)), H', ⟨by have := HJ0.out; first | omega | exact Nat.le_refl _⟩, ⟨blx⟩⟩
    ·rw [if_neg c25] at H
     have c25b0 : (t705 == t707 && (t706 == t708)) = false := by simpa using c25
     (try (have c25b1 : decide (t705 = t707 && (t706 == t708)) = false := by simpa using c25))
     (try (have c25b2 : (t705 == t707 && (t706 == t708)) = false := by simpa using c25))
     (try (have c25b3 : ¬ (t705 = t707 && (t706 == t708)) := by simpa using c25))
     clear c25
     (first | rw [c25b0] | (simp only [i64_w, i32_w]; rw [c25b0]) | skip)
     have H' := Aside0.mk H
     clear H
     go_wp2_with (first | ((with_reducible refine gate_callee (f := 52) rfl ?_); refine goesL_ (some 16) rfl rfl Tryd.func52 (by kernel_rfl) rfl #[.int .i64 105] rfl agx ?_; (with_reducible refine (levylaw1_c.calls 105 t703 t704 _ A22.out).mono ?_); rintro e w46 ⟨rfl, hb⟩; refine ⟨_, rfl, ?_⟩; have n0_ := Aside0.mk (below_step blx hb); clear HB; have HB := n0_; clear n0_; (try clear hb); (try clear hb2); (try clear hk); (try clear hi)) | ((with_reducible refine gate_callee (f := 49) rfl ?_); refine goesL_ (some 17) rfl rfl Tryd.func49 (by kernel_rfl) rfl #[.agg #[.int .i64 t703, .int .i64 t704], .int .i64 1, .int .i64 10, .int .i64 5] rfl agx ?_; (with_reducible refine (money_Scale.calls kj0 t703 t704 1 10 5 t705 t706 _ A23.out (by first | exact HG0.out | exact Kd.C_below HG0.out blx)).mono ?_); rintro e w47 ⟨rfl, hb⟩; refine ⟨_, rfl, ?_⟩; have n0_ := Aside0.mk (below_step blx hb); clear HB; have HB := n0_; clear n0_; (try clear hb); (try clear hb2); (try clear hk); (try clear hi)) | ((with_reducible refine gate_callee (f := 52) rfl ?_); refine goesL_ (some 18) rfl rfl Tryd.func52 (by kernel_rfl) rfl #[.int .i64 10] rfl agx ?_; (with_reducible refine (levylaw1_c.calls 10 t707 t708 _ A24.out).mono ?_); rintro e w48 ⟨rfl, hb⟩; refine ⟨_, rfl, ?_⟩; have n0_ := Aside0.mk (below_step blx hb); clear HB; have HB := n0_; clear n0_; (try clear hb); (try clear hb2); (try clear hk); (try clear hi)))
     go_meet
     case rel => exact ⟨_, (false), (by first | rfl | (simp; done) | (simp [*]; done)), H', ⟨by have := HJ0.out; first | omega | exact Nat.le_refl _⟩, ⟨blx⟩⟩
   case rest =>
    clear HC21
    try clear c2
    try clear p2
    try clear c4
    try clear c5
    try clear c6
    try clear c6b0
    try clear c6b1
    try clear c6b2
    try clear c23
    try clear c25
    try clear c25b0
    try clear c25b1
    try clear c25b2
    try clear c29
    try clear c29b0
    try clear c29b1
    try clear c29b2
    try clear p2
    obtain ⟨kq, x2_20, rfl, HA, HJ20, HB⟩ := hcut
    cases kq with
    | zero => exact absurd HA.out (by simp [levylaw1_known.j1])
    | succ kj20 =>
     have H := HA.out
     clear HA
     simp only [levylaw1_known.j1] at H
     obtain ⟨y719, hy719⟩ : ∃ y_ : List (S72), y_ = (([(⟨0, 100000⟩ : S72), (⟨1000000, 250000⟩ : S72)] : List (S72))) := ⟨_, rfl⟩
     replace H : (if x1_0 = true then (if x2_20 = true then ((levylaw1_c.f 1000002).bind fun bt722 => ((money_Bracket.f kj20 y719 bt722.1 bt722.2).bind fun bt724 => ((levylaw1_c.f 100001).bind fun bt726 => (if (bt724.1 == bt726.1 && (bt724.2 == bt726.2)) = true then ((levylaw1_c.f 5).bind fun bt728 => ((money_Valid.f bt728.1 bt728.2).bind fun t730 => (if t730 = true then ((money_Valid.f 7 0).bind fun t731 => (some (!t731))) else (some false)))) else (some false))))) else (some false)) else (some false)) = some r := by first | (rw [hy719]; with_reducible exact H) | (have H2_ := (Option.bind_some _ _).symm.trans H; rw [hy719]; with_reducible exact H2_) | (have H2_ := (Option.bind_some _ _).symm.trans H; with_reducible exact H2_) | with_reducible exact H | (rw [hy719]; exact H) | exact H
     have Ny719 := Aside0.mk hy719
     clear hy719
     by_cases c49 : x1_0 = true
     ·subst c49
      have H1 : (if x2_20 = true then ((levylaw1_c.f 1000002).bind fun bt722 => ((money_Bracket.f kj20 y719 bt722.1 bt722.2).bind fun bt724 => ((levylaw1_c.f 100001).bind fun bt726 => (if (bt724.1 == bt726.1 && (bt724.2 == bt726.2)) = true then ((levylaw1_c.f 5).bind fun bt728 => ((money_Valid.f bt728.1 bt728.2).bind fun t730 => (if t730 = true then ((money_Valid.f 7 0).bind fun t731 => (some (!t731))) else (some false)))) else (some false))))) else (some false)) = some r := by rw [if_pos rfl] at H; exact H
      clear H
      have H := H1
      clear H1
      by_cases c50 : x2_20 = true
      ·subst c50
       have H1 : ((levylaw1_c.f 1000002).bind fun bt722 => ((money_Bracket.f kj20 y719 bt722.1 bt722.2).bind fun bt724 => ((levylaw1_c.f 100001).bind fun bt726 => (if (bt724.1 == bt726.1 && (bt724.2 == bt726.2)) = true then ((levylaw1_c.f 5).bind fun bt728 => ((money_Valid.f bt728.1 bt728.2).bind fun t730 => (if t730 = true then ((money_Valid.f 7 0).bind fun t731 => (some (!t731))) else (some false)))) else (some false))))) = some r := by rw [if_pos rfl] at H; exact H
       clear H
       have H := H1
       clear H1
       replace H := Option.bind_eq_some_iff.mp H
       obtain ⟨⟨t722, t723⟩, A510, H⟩ := H
       replace H : ((money_Bracket.f kj20 y719 t722 t723).bind fun bt724 => ((levylaw1_c.f 100001).bind fun bt726 => (if (bt724.1 == bt726.1 && (bt724.2 == bt726.2)) = true then ((levylaw1_c.f 5).bind fun bt728 => ((money_Valid.f bt728.1 bt728.2).bind fun t730 => (if t730 = true then ((money_Valid.f 7 0).bind fun t731 => (some (!t731))) else (some false)))) else (some false)))) = some r := H
       have A51 := Aside0.mk A510
       clear A510
       replace H := Option.bind_eq_some_iff.mp H
       obtain ⟨⟨t724, t725⟩, A520, H⟩ := H
       replace H : ((levylaw1_c.f 100001).bind fun bt726 => (if (t724 == bt726.1 && (t725 == bt726.2)) = true then ((levylaw1_c.f 5).bind fun bt728 => ((money_Valid.f bt728.1 bt728.2).bind fun t730 => (if t730 = true then ((money_Valid.f 7 0).bind fun t731 => (some (!t731))) else (some false)))) else (some false))) = some r := H
       have A52 := Aside0.mk A520
       clear A520
       replace H := Option.bind_eq_some_iff.mp H
       obtain ⟨⟨t726, t727⟩, A530, H⟩ := H
       replace H : (if (t724 == t726 && (t725 == t727)) = true then ((levylaw1_c.f 5).bind fun bt728 => ((money_Valid.f bt728.1 bt728.2).bind fun t730 => (if t730 = true then ((money_Valid.f 7 0).bind fun t731 => (some (!t731))) else (some false)))) else (some false)) = some r := H
       have A53 := Aside0.mk A530
       clear A530
       by_cases c54 : (t724 == t726 && (t725 == t727)) = true
       ·rw [if_pos c54] at H
        have c54b0 : (t724 == t726 && (t725 == t727)) = true := c54
        (try (have c54b1 : decide (t724 = t726 && (t725 == t727)) = true := by simpa using c54))
        (try (have c54b2 : (t724 == t726 && (t725 == t727)) = true := by simpa using c54))
        clear c54
        replace H := Option.bind_eq_some_iff.mp H
        obtain ⟨⟨t728, t729⟩, A550, H⟩ := H
        replace H : ((money_Valid.f t728 t729).bind fun t730 => (if t730 = true then ((money_Valid.f 7 0).bind fun t731 => (some (!t731))) else (some false))) = some r := H
        have A55 := Aside0.mk A550
        clear A550
        replace H := Option.bind_eq_some_iff.mp H
        obtain ⟨t730, A560, H⟩ := H
        replace H : (if t730 = true then ((money_Valid.f 7 0).bind fun t731 => (some (!t731))) else (some false)) = some r := H
        have A56 := Aside0.mk A560
        clear A560
        by_cases c57 : t730 = true
        ·subst c57
         have H1 : ((money_Valid.f 7 0).bind fun t731 => (some (!t731))) = some r := by rw [if_pos rfl] at H; exact H
         clear H
         have H := H1
         clear H1
         replace H := Option.bind_eq_some_iff.mp H
         obtain ⟨t731, A580, H⟩ := H
         replace H : (some (!t731)) = some r := H
         have A58 := Aside0.mk A580
         clear A580
         obtain rfl := Option.some.inj H
         go_wp2_with (first | ((with_reducible refine gate_dst (N := 35) rfl ?_); refine Kd.R_lit k72 _ 72 ?hg (N := 35) ?hd (xs := ([(⟨0, 100000⟩ : S72), (⟨1000000, 250000⟩ : S72)] : List (S72))) (inner := [.int .i64 0, .int .i64 100000, .int .i64 1000000, .int .i64 250000]) (ok := fun _ => True) (okp := fun _ => True) ?hr ?hp (fun _ hk => hk) trivial (Below.refl _ _) (Nat.le_refl _) (by simp) ?_; (case hd => rfl); (case hg => rfl); (case hr => first | (go_simp; done) | (go_simp; rfl)); (case hp => exact (Reps.c2 (show Kd.M k72 _ _ _ (⟨0, 100000⟩ : S72) [.int .i64 0, .int .i64 100000] from (k72_mkM _ _ _ (⟨0, 100000⟩ : S72) )) (Reps.c2 (show Kd.M k72 _ _ _ (⟨1000000, 250000⟩ : S72) [.int .i64 1000000, .int .i64 250000] from (k72_mkM _ _ _ (⟨1000000, 250000⟩ : S72) )) (Reps.none _ _)))); intro v720 w59 ho60 hb hg_ hnew_; clear hg_ hnew_; (first | rw [← Ny719.out] at ho60 | (simp only [Int.reduceToNat] at ho60; rw [← Ny719.out] at ho60)); have n0_ := Aside0.mk (Kd.R_lower ho60 (below_size blx)); have n1_ := Aside0.mk (below_step blx hb); clear HB; have HO721 := n0_; have HB := n1_; clear n0_ n1_; clear hb ho60) | (go_at_call 52; (with_reducible refine (levylaw1_c.calls 1000002 t722 t723 _ A51.out).mono ?_); rintro e w61 ⟨rfl, hb⟩; have n0_ := Aside0.mk (Kd.R_below (by (with_reducible repeat (first | apply Kd.R_alloc | apply Kd.R_drewN | apply Kd.R_drew)); exact HO721.out) hb); have n1_ := Aside0.mk (below_step blx hb); clear HO721; clear HB; have HO721 := n0_; have HB := n1_; clear n0_ n1_; (try clear hb); (try clear hb2); (try clear hk); (try clear hi); obtain ⟨Ao62, co62, eo62⟩ := Kd.R_slice HO721.out; subst eo62) | (go_at_call 45; (with_reducible refine (money_Bracket.calls kj20 _ _ y719 t722 t723 t724 t725 _ ?side1 ?side2 A52.out (by first | exact HG0.out | exact Kd.C_below HG0.out blx)).mono ?_); (case side1 => repeat (first | exact (Kd.R_reads' HO721.out).2.2 | (with_reducible refine Kd.C_alloc ?_ _) | (with_reducible refine Kd.C_drewN ?_ _) | (with_reducible refine Kd.C_drew ?_))); (case side2 => exact (Kd.R_reads' HO721.out).2.1); rintro e w63 ⟨rfl, hb⟩; have n0_ := Aside0.mk (Kd.R_below (by (with_reducible repeat (first | apply Kd.R_alloc | apply Kd.R_drewN | apply Kd.R_drew)); exact HO721.out) hb); have n1_ := Aside0.mk (below_step blx hb); clear HO721; clear HB; have HO721 := n0_; have HB := n1_; clear n0_ n1_; (try clear hb); (try clear hb2); (try clear hk); (try clear hi)) | (go_at_call 52; (with_reducible refine (levylaw1_c.calls 100001 t726 t727 _ A53.out).mono ?_); rintro e w64 ⟨rfl, hb⟩; have n0_ := Aside0.mk (Kd.R_below (by (with_reducible repeat (first | apply Kd.R_alloc | apply Kd.R_drewN | apply Kd.R_drew)); exact HO721.out) hb); have n1_ := Aside0.mk (below_step blx hb); clear HO721; clear HB; have HO721 := n0_; have HB := n1_; clear n0_ n1_; (try clear hb); (try clear hb2); (try clear hk); (try clear hi)) | (go_at_call 52; (with_reducible refine (levylaw1_c.calls 5 t728 t729 _ A55.out).mono ?_); rintro e w65 ⟨rfl, hb⟩; have n0_ := Aside0.mk (Kd.R_below (by (with_reducible repeat (first | apply Kd.R_alloc | apply Kd.R_drewN | apply Kd.R_drew)); exact HO721.out) hb); have n1_ := Aside0.mk (below_step blx hb); clear HO721; clear HB; have HO721 := n0_; have HB := n1_; clear n0_ n1_; (try clear hb); (try clear hb2); (try clear hk); (try clear hi)) | (go_at_call 18; (with_reducible refine (money_Valid.calls t728 t729 true _ A56.out (by first | exact HG0.out | exact Kd.C_below HG0.out blx)).mono ?_); rintro e w66 ⟨rfl, hb⟩; have n0_ := Aside0.mk (Kd.R_below (by (with_reducible repeat (first | apply Kd.R_alloc | apply Kd.R_drewN | apply Kd.R_drew)); exact HO721.out) hb); have n1_ := Aside0.mk (below_step blx hb); clear HO721; clear HB; have HO721 := n0_; have HB := n1_; clear n0_ n1_; (try clear hb); (try clear hb2); (try clear hk); (try clear hi)) | (go_at_call 18; (with_reducible refine (money_Valid.calls 7 0 t731 _ A58.out (by first | exact HG0.out | exact Kd.C_below HG0.out blx)).mono ?_); rintro e w67 ⟨rfl, hb⟩; have n0_ := Aside0.mk (Kd.R_below (by (with_reducible repeat (first | apply Kd.R_alloc | apply Kd.R_drewN | apply Kd.R_drew)); exact HO721.out) hb); have n1_ := Aside0.mk (below_step blx hb); clear HO721; clear HB; have HO721 := n0_; have HB := n1_; clear n0_ n1_; (try clear hb); (try clear hb2); (try clear hk); (try clear hi)))
         go_ret
         exact ⟨by first | rfl | (simp [errW_none, errW_some] <;> rfl) | (simp [*, errW_none, errW_some] <;> rfl), blx⟩
        ·replace c57 := Bool.eq_false_iff.mpr c57
         subst c57
         have H1 : (some false) = some r := by rw [if_neg (show ¬ (false = true) by decide)] at H; exact H
         clear H
         have H := H1
         clear H1
         obtain rfl := Option.some.inj H
         go_wp2_with (first | ((with_reducible refine gate_dst (N := 35) rfl ?_); refine Kd.R_lit k72 _ 72 ?hg (N := 35) ?hd (xs := ([(⟨0, 100000⟩ : S72), (⟨1000000, 250000⟩ : S72)] : List (S72))) (inner := [.int .i64 0, .int .i64 100000, .int .i64 1000000, .int .i64 250000]) (ok := fun _ => True) (okp := fun _ => True) ?hr ?hp (fun _ hk => hk) trivial (Below.refl _ _) (Nat.le_refl _) (by simp) ?_; (case hd => rfl); (case hg => rfl); (case hr => first | (go_simp; done) | (go_simp; rfl)); (case hp => exact (Reps.c2 (show Kd.M k72 _ _ _ (⟨0, 100000⟩ : S72) [.int .i64 0, .int .i64 100000] from (k72_mkM _ _ _ (⟨0, 100000⟩ : S72) )) (Reps.c2 (show Kd.M k72 _ _ _ (⟨1000000, 250000⟩ : S72) [.int .i64 1000000, .int .i64 250000] from (k72_mkM _ _ _ (⟨1000000, 250000⟩ : S72) )) (Reps.none _ _)))); intro v720 w68 ho69 hb hg_ hnew_; clear hg_ hnew_; (first | rw [← Ny719.out] at ho69 | (simp only [Int.reduceToNat] at ho69; rw [← Ny719.out] at ho69)); have n0_ := Aside0.mk (Kd.R_lower ho69 (below_size blx)); have n1_ := Aside0.mk (below_step blx hb); clear HB; have HO721 := n0_; have HB := n1_; clear n0_ n1_; clear hb ho69) | (go_at_call 52; (with_reducible refine (levylaw1_c.calls 1000002 t722 t723 _ A51.out).mono ?_); rintro e w70 ⟨rfl, hb⟩; have n0_ := Aside0.mk (Kd.R_below (by (with_reducible repeat (first | apply Kd.R_alloc | apply Kd.R_drewN | apply Kd.R_drew)); exact HO721.out) hb); have n1_ := Aside0.mk (below_step blx hb); clear HO721; clear HB; have HO721 := n0_; have HB := n1_; clear n0_ n1_; (try clear hb); (try clear hb2); (try clear hk); (try clear hi); obtain ⟨Ao71, co71, eo71⟩ := Kd.R_slice HO721.out; subst eo71) | (go_at_call 45; (with_reducible refine (money_Bracket.calls kj20 _ _ y719 t722 t723 t724 t725 _ ?side1 ?side2 A52.out (by first | exact HG0.out | exact Kd.C_below HG0.out blx)).mono ?_); (case side1 => repeat (first | exact (Kd.R_reads' HO721.out).2.2 | (with_reducible refine Kd.C_alloc ?_ _) | (with_reducible refine Kd.C_drewN ?_ _) | (with_reducible refine Kd.C_drew ?_))); (case side2 => exact (Kd.R_reads' HO721.out).2.1); rintro e w72 ⟨rfl, hb⟩; have n0_ := Aside0.mk (Kd.R_below (by (with_reducible repeat (first | apply Kd.R_alloc | apply Kd.R_drewN | apply Kd.R_drew)); exact HO721.out) hb); have n1_ := Aside0.mk (below_step blx hb); clear HO721; clear HB; have HO721 := n0_; have HB := n1_; clear n0_ n1_; (try clear hb); (try clear hb2); (try clear hk); (try clear hi)) | (go_at_call 52; (with_reducible refine (levylaw1_c.calls 100001 t726 t727 _ A53.out).mono ?_); rintro e w73 ⟨rfl, hb⟩; have n0_ := Aside0.mk (Kd.R_below (by (with_reducible repeat (first | apply Kd.R_alloc | apply Kd.R_drewN | apply Kd.R_drew)); exact HO721.out) hb); have n1_ := Aside0.mk (below_step blx hb); clear HO721; clear HB; have HO721 := n0_; have HB := n1_; clear n0_ n1_; (try clear hb); (try clear hb2); (try clear hk); (try clear hi)) | (go_at_call 52; (with_reducible refine (levylaw1_c.calls 5 t728 t729 _ A55.out).mono ?_); rintro e w74 ⟨rfl, hb⟩; have n0_ := Aside0.mk (Kd.R_below (by (with_reducible repeat (first | apply Kd.R_alloc | apply Kd.R_drewN | apply Kd.R_drew)); exact HO721.out) hb); have n1_ := Aside0.mk (below_step blx hb); clear HO721; clear HB; have HO721 := n0_; have HB := n1_; clear n0_ n1_; (try clear hb); (try clear hb2); (try clear hk); (try clear hi)) | (go_at_call 18; (with_reducible refine (money_Valid.calls t728 t729 false _ A56.out (by first | exact HG0.out | exact Kd.C_below HG0.out blx)).mono ?_); rintro e w75 ⟨rfl, hb⟩; have n0_ := Aside0.mk (Kd.R_below (by (with_reducible repeat (first | apply Kd.R_alloc | apply Kd.R_drewN | apply Kd.R_drew)); exact HO721.out) hb); have n1_ := Aside0.mk (below_step blx hb); clear HO721; clear HB; have HO721 := n0_; have HB := n1_; clear n0_ n1_; (try clear hb); (try clear hb2); (try clear hk); (try clear hi)))
         go_ret
         exact ⟨by first | rfl | (simp [errW_none, errW_some] <;> rfl) | (simp [*, errW_none, errW_some] <;> rfl), blx⟩
       ·rw [if_neg c54] at H
        have c54b0 : (t724 == t726 && (t725 == t727)) = false := by simpa using c54
        (try (have c54b1 : decide (t724 = t726 && (t725 == t727)) = false := by simpa using c54))
        (try (have c54b2 : (t724 == t726 && (t725 == t727)) = false := by simpa using c54))
        (try (have c54b3 : ¬ (t724 = t726 && (t725 == t727)) := by simpa using c54))
        clear c54
        obtain rfl := Option.some.inj H
        go_wp2_with (first | ((with_reducible refine gate_dst (N := 35) rfl ?_); refine Kd.R_lit k72 _ 72 ?hg (N := 35) ?hd (xs := ([(⟨0, 100000⟩ : S72), (⟨1000000, 250000⟩ : S72)] : List (S72))) (inner := [.int .i64 0, .int .i64 100000, .int .i64 1000000, .int .i64 250000]) (ok := fun _ => True) (okp := fun _ => True) ?hr ?hp (fun _ hk => hk) trivial (Below.refl _ _) (Nat.le_refl _) (by simp) ?_; (case hd => rfl); (case hg => rfl); (case hr => first | (go_simp; done) | (go_simp; rfl)); (case hp => exact (Reps.c2 (show Kd.M k72 _ _ _ (⟨0, 100000⟩ : S72) [.int .i64 0, .int .i64 100000] from (k72_mkM _ _ _ (⟨0, 100000⟩ : S72) )) (Reps.c2 (show Kd.M k72 _ _ _ (⟨1000000, 250000⟩ : S72) [.int .i64 1000000, .int .i64 250000] from (k72_mkM _ _ _ (⟨1000000, 250000⟩ : S72) )) (Reps.none _ _)))); intro v720 w76 ho77 hb hg_ hnew_; clear hg_ hnew_; (first | rw [← Ny719.out] at ho77 | (simp only [Int.reduceToNat] at ho77; rw [← Ny719.out] at ho77)); have n0_ := Aside0.mk (Kd.R_lower ho77 (below_size blx)); have n1_ := Aside0.mk (below_step blx hb); clear HB; have HO721 := n0_; have HB := n1_; clear n0_ n1_; clear hb ho77) | (go_at_call 52; (with_reducible refine (levylaw1_c.calls 1000002 t722 t723 _ A51.out).mono ?_); rintro e w78 ⟨rfl, hb⟩; have n0_ := Aside0.mk (Kd.R_below (by (with_reducible repeat (first | apply Kd.R_alloc | apply Kd.R_drewN | apply Kd.R_drew)); exact HO721.out) hb); have n1_ := Aside0.mk (below_step blx hb); clear HO721; clear HB; have HO721 := n0_; have HB := n1_; clear n0_ n1_; (try clear hb); (try clear hb2); (try clear hk); (try clear hi); obtain ⟨Ao79, co79, eo79⟩ := Kd.R_slice HO721.out; subst eo79) | (go_at_call 45; (with_reducible refine (money_Bracket.calls kj20 _ _ y719 t722 t723 t724 t725 _ ?side1 ?side2 A52.out (by first | exact HG0.out | exact Kd.C_below HG0.out blx)).mono ?_); (case side1 => repeat (first | exact (Kd.R_reads' HO721.out).2.2 | (with_reducible refine Kd.C_alloc ?_ _) | (with_reducible refine Kd.C_drewN ?_ _) | (with_reducible refine Kd.C_drew ?_))); (case side2 => exact (Kd.R_reads' HO721.out).2.1); rintro e w80 ⟨rfl, hb⟩; have n0_ := Aside0.mk (Kd.R_below (by (with_reducible repeat (first | apply Kd.R_alloc | apply Kd.R_drewN | apply Kd.R_drew)); exact HO721.out) hb); have n1_ := Aside0.mk (below_step blx hb); clear HO721; clear HB; have HO721 := n0_; have HB := n1_; clear n0_ n1_; (try clear hb); (try clear hb2); (try clear hk); (try clear hi)) | (go_at_call 52; (with_reducible refine (levylaw1_c.calls 100001 t726 t727 _ A53.out).mono ?_); rintro e w81 ⟨rfl, hb⟩; have n0_ := Aside0.mk (Kd.R_below (by (with_reducible repeat (first | apply Kd.R_alloc | apply Kd.R_drewN | apply Kd.R_drew)); exact HO721.out) hb); have n1_ := Aside0.mk (below_step blx hb); clear HO721; clear HB; have HO721 := n0_; have HB := n1_; clear n0_ n1_; (try clear hb); (try clear hb2); (try clear hk); (try clear hi)))
        go_ret
        exact ⟨by first | rfl | (simp [errW_none, errW_some] <;> rfl) | (simp [*, errW_none, errW_some] <;> rfl), blx⟩
      ·replace c50 := Bool.eq_false_iff.mpr c50
       subst c50
       have H1 : (some false) = some r := by rw [if_neg (show ¬ (false = true) by decide)] at H; exact H
       clear H
       have H := H1
       clear H1
       obtain rfl := Option.some.inj H
       go_wp2_with (first | ((with_reducible refine gate_dst (N := 35) rfl ?_); refine Kd.R_lit k72 _ 72 ?hg (N := 35) ?hd (xs := ([(⟨0, 100000⟩ : S72), (⟨1000000, 250000⟩ : S72)] : List (S72))) (inner := [.int .i64 0, .int .i64 100000, .int .i64 1000000, .int .i64 250000]) (ok := fun _ => True) (okp := fun _ => True) ?hr ?hp (fun _ hk => hk) trivial (Below.refl _ _) (Nat.le_refl _) (by simp) ?_; (case hd => rfl); (case hg => rfl); (case hr => first | (go_simp; done) | (go_simp; rfl)); (case hp => exact (Reps.c2 (show Kd.M k72 _ _ _ (⟨0, 100000⟩ : S72) [.int .i64 0, .int .i64 100000] from (k72_mkM _ _ _ (⟨0, 100000⟩ : S72) )) (Reps.c2 (show Kd.M k72 _ _ _ (⟨1000000, 250000⟩ : S72) [.int .i64 1000000, .int .i64 250000] from (k72_mkM _ _ _ (⟨1000000, 250000⟩ : S72) )) (Reps.none _ _)))); intro v720 w82 ho83 hb hg_ hnew_; clear hg_ hnew_; (first | rw [← Ny719.out] at ho83 | (simp only [Int.reduceToNat] at ho83; rw [← Ny719.out] at ho83)); have n0_ := Aside0.mk (Kd.R_lower ho83 (below_size blx)); have n1_ := Aside0.mk (below_step blx hb); clear HB; have HO721 := n0_; have HB := n1_; clear n0_ n1_; clear hb ho83))
       go_ret
       exact ⟨by first | rfl | (simp [errW_none, errW_some] <;> rfl) | (simp [*, errW_none, errW_some] <;> rfl), blx⟩
     ·replace c49 := Bool.eq_false_iff.mpr c49
      subst c49
      have H1 : (some false) = some r := by rw [if_neg (show ¬ (false = true) by decide)] at H; exact H
      clear H
      have H := H1
      clear H1
      obtain rfl := Option.some.inj H
      go_wp2_with (first | ((with_reducible refine gate_dst (N := 35) rfl ?_); refine Kd.R_lit k72 _ 72 ?hg (N := 35) ?hd (xs := ([(⟨0, 100000⟩ : S72), (⟨1000000, 250000⟩ : S72)] : List (S72))) (inner := [.int .i64 0, .int .i64 100000, .int .i64 1000000, .int .i64 250000]) (ok := fun _ => True) (okp := fun _ => True) ?hr ?hp (fun _ hk => hk) trivial (Below.refl _ _) (Nat.le_refl _) (by simp) ?_; (case hd => rfl); (case hg => rfl); (case hr => first | (go_simp; done) | (go_simp; rfl)); (case hp => exact (Reps.c2 (show Kd.M k72 _ _ _ (⟨0, 100000⟩ : S72) [.int .i64 0, .int .i64 100000] from (k72_mkM _ _ _ (⟨0, 100000⟩ : S72) )) (Reps.c2 (show Kd.M k72 _ _ _ (⟨1000000, 250000⟩ : S72) [.int .i64 1000000, .int .i64 250000] from (k72_mkM _ _ _ (⟨1000000, 250000⟩ : S72) )) (Reps.none _ _)))); intro v720 w84 ho85 hb hg_ hnew_; clear hg_ hnew_; (first | rw [← Ny719.out] at ho85 | (simp only [Int.reduceToNat] at ho85; rw [← Ny719.out] at ho85)); have n0_ := Aside0.mk (Kd.R_lower ho85 (below_size blx)); have n1_ := Aside0.mk (below_step blx hb); clear HB; have HO721 := n0_; have HB := n1_; clear n0_ n1_; clear hb ho85))
      go_ret
      exact ⟨by first | rfl | (simp [errW_none, errW_some] <;> rfl) | (simp [*, errW_none, errW_some] <;> rfl), blx⟩

end Go.Proofs.YtnjhjaifmgjljaaDoor.PM
