-- Written by a program of this session's (wip/tools/myprint.py): a function's plain form and its contract.
import Derived.Test.YtnjhjaifmgjljaaDoorPMx0
import Derived.Test.YtnjhjaifmgjljaaDoorPMx1
import Derived.Test.YtnjhjaifmgjljaaDoorPMx2
import Derived.Test.YtnjhjaifmgjljaaDoorPMx3
import Derived.Test.YtnjhjaifmgjljaaDoorPMx11
import Derived.Test.YtnjhjaifmgjljaaDoorPMx18
import Derived.Test.YtnjhjaifmgjljaaDoorPMx20
import Derived.Test.YtnjhjaifmgjljaaDoorPMx25
import Derived.Test.YtnjhjaifmgjljaaDoorPMx27
import Derived.Test.YtnjhjaifmgjljaaDoorPMx64
namespace Go.Proofs.YtnjhjaifmgjljaaDoor.PM
open Go.RowKit Go.Proofs.YtnjhjaifmgjljaaDoorW.PrintWords Go.Proofs.YtnjhjaifmgjljaaDoorW.PrintLast Go.Proofs.YtnjhjaifmgjljaaDoorW.PrintMore
attribute [local go_sem] max2_int min2_int max_two min_two max_three min_three max_four min_four   -- for this text's walks alone
set_option linter.unusedVariables false
set_option linter.unusedSimpArgs false

attribute [local go_sem high] eqA23
/-! ### levylaw1_MoneyBack: function 15 -/
mutual
def levylaw1_MoneyBack.j0 : Nat → Bool → Int → Int → Int → Int → Int → Int → Option (Bool)
 | 0, _, _, _, _, _, _, _ => none
 | k + 1, x35, x784000, x784001, x785000, x785001, x789000, x789001 => if x35 = true then (some (x789000 == 6)) else ((money_Add.f k x785000 x785001 x784000 x784001).bind fun bt791 => (if (!(x789000 == bt791.1) || (!(x789001 == bt791.2))) = true then (levylaw1_MoneyBack.j1 k true x784000 x784001 x785000 x785001 x789000 x789001) else ((money_Neg.f k x784000 x784001).bind fun bt793 => ((money_Neg.f k bt793.1 bt793.2).bind fun bt795 => (if (!(bt795.1 == x784000) || (!(bt795.2 == x784001))) = true then (levylaw1_MoneyBack.j1 k true x784000 x784001 x785000 x785001 x789000 x789001) else ((money_Sub.f k x784000 x784001 x785000 x785001).bind fun bt797 => ((money_Neg.f k x785000 x785001).bind fun bt799 => ((money_Add.f k x784000 x784001 bt799.1 bt799.2).bind fun bt801 => (levylaw1_MoneyBack.j1 k (!(bt797.1 == bt801.1) || (!(bt797.2 == bt801.2))) x784000 x784001 x785000 x785001 x789000 x789001)))))))))
def levylaw1_MoneyBack.j1 : Nat → Bool → Int → Int → Int → Int → Int → Int → Option (Bool)
 | 0, _, _, _, _, _, _, _ => none
 | k + 1, x60, x784000, x784001, x785000, x785001, x789000, x789001 => if x60 = true then (some false) else ((money_Min.f k x784000 x784001 x785000 x785001).bind fun bt803 => ((money_Max.f k x784000 x784001 x785000 x785001).bind fun bt805 => (if ((bt803.1 == bt805.1 && (bt803.2 == bt805.2)) != (x784000 == x785000 && (x784001 == x785001))) = true then (some false) else (if x789000 = 6 then (some true) else ((money_Sub.f k x789000 x789001 x785000 x785001).bind fun bt807 => (some (bt807.1 == x784000 && (bt807.2 == x784001))))))))
end
def levylaw1_MoneyBack.f (k : Nat) (a0_0 : Int) (a0_1 : Int) (a1_0 : Int) (a1_1 : Int) : Option (Bool) := (levylaw1_known.f k).bind fun t785 => (if t785 = true then ((money_Add.f k a0_0 a0_1 a1_0 a1_1).bind fun bt786 => ((money_Valid.f a0_0 a0_1).bind fun t789 => (if t789 = true then ((money_Valid.f a1_0 a1_1).bind fun t790 => (if t790 = true then (if a0_0 = a1_0 then (if a0_0 = 1 then (levylaw1_MoneyBack.j0 k false a0_0 a0_1 a1_0 a1_1 bt786.1 bt786.2) else (levylaw1_MoneyBack.j0 k (a0_0 != 2) a0_0 a0_1 a1_0 a1_1 bt786.1 bt786.2)) else (levylaw1_MoneyBack.j0 k true a0_0 a0_1 a1_0 a1_1 bt786.1 bt786.2)) else (levylaw1_MoneyBack.j0 k true a0_0 a0_1 a1_0 a1_1 bt786.1 bt786.2))) else (levylaw1_MoneyBack.j0 k true a0_0 a0_1 a1_0 a1_1 bt786.1 bt786.2)))) else (some false))
theorem levylaw1_MoneyBack.mono_l : ∀ k, (∀ y0 y1 y2 y3 y4 y5 y6, LeO (levylaw1_MoneyBack.j0 k y0 y1 y2 y3 y4 y5 y6) (levylaw1_MoneyBack.j0 (k + 1) y0 y1 y2 y3 y4 y5 y6)) ∧ (∀ y0 y1 y2 y3 y4 y5 y6, LeO (levylaw1_MoneyBack.j1 k y0 y1 y2 y3 y4 y5 y6) (levylaw1_MoneyBack.j1 (k + 1) y0 y1 y2 y3 y4 y5 y6))
 | 0 => ⟨fun _ _ _ _ _ _ _ r h => by simp [levylaw1_MoneyBack.j0] at h, fun _ _ _ _ _ _ _ r h => by simp [levylaw1_MoneyBack.j1] at h⟩
 | k + 1 => by
  obtain ⟨ih0, ih1⟩ := levylaw1_MoneyBack.mono_l k
  refine ⟨?_, ?_⟩
  ·intro y0 y1 y2 y3 y4 y5 y6
   unfold levylaw1_MoneyBack.j0
   repeat' first
   | (with_reducible exact ih0 _ _ _ _ _ _ _)
   | (with_reducible exact ih1 _ _ _ _ _ _ _)
   | (with_reducible exact levylaw1_known.mono _)
   | (with_reducible exact money_Add.mono _ _ _ _ _)
   | (with_reducible exact money_Max.mono _ _ _ _ _)
   | (with_reducible exact money_Min.mono _ _ _ _ _)
   | (with_reducible exact money_Neg.mono _ _ _)
   | (with_reducible exact money_Sub.mono _ _ _ _ _)
   | (with_reducible exact LeO.refl _)
   | (with_reducible exact LeO.none _)
   | (with_reducible refine LeO.ite ?_ ?_)
   | (with_reducible refine LeO.bind ?_ (fun _ => ?_))
   | exact ih0 _ _ _ _ _ _ _
   | exact ih1 _ _ _ _ _ _ _
   | exact levylaw1_known.mono _
   | exact money_Add.mono _ _ _ _ _
   | exact money_Max.mono _ _ _ _ _
   | exact money_Min.mono _ _ _ _ _
   | exact money_Neg.mono _ _ _
   | exact money_Sub.mono _ _ _ _ _
   | exact LeO.none _
   | refine LeO.ite ?_ ?_
   | refine LeO.bind ?_ (fun _ => ?_)
  ·intro y0 y1 y2 y3 y4 y5 y6
   unfold levylaw1_MoneyBack.j1
   repeat' first
   | (with_reducible exact ih0 _ _ _ _ _ _ _)
   | (with_reducible exact ih1 _ _ _ _ _ _ _)
   | (with_reducible exact levylaw1_known.mono _)
   | (with_reducible exact money_Add.mono _ _ _ _ _)
   | (with_reducible exact money_Max.mono _ _ _ _ _)
   | (with_reducible exact money_Min.mono _ _ _ _ _)
   | (with_reducible exact money_Neg.mono _ _ _)
   | (with_reducible exact money_Sub.mono _ _ _ _ _)
   | (with_reducible exact LeO.refl _)
   | (with_reducible exact LeO.none _)
   | (with_reducible refine LeO.ite ?_ ?_)
   | (with_reducible refine LeO.bind ?_ (fun _ => ?_))
   | exact ih0 _ _ _ _ _ _ _
   | exact ih1 _ _ _ _ _ _ _
   | exact levylaw1_known.mono _
   | exact money_Add.mono _ _ _ _ _
   | exact money_Max.mono _ _ _ _ _
   | exact money_Min.mono _ _ _ _ _
   | exact money_Neg.mono _ _ _
   | exact money_Sub.mono _ _ _ _ _
   | exact LeO.none _
   | refine LeO.ite ?_ ?_
   | refine LeO.bind ?_ (fun _ => ?_)
theorem levylaw1_MoneyBack.mono : ∀ a0 a1 a2 a3 k, LeO (levylaw1_MoneyBack.f k a0 a1 a2 a3) (levylaw1_MoneyBack.f (k + 1) a0 a1 a2 a3) := by
 intro a0 a1 a2 a3 k
 obtain ⟨ih0, ih1⟩ := levylaw1_MoneyBack.mono_l k
 unfold levylaw1_MoneyBack.f
 repeat' first
   | (with_reducible exact ih0 _ _ _ _ _ _ _)
   | (with_reducible exact ih1 _ _ _ _ _ _ _)
   | (with_reducible exact levylaw1_known.mono _)
   | (with_reducible exact money_Add.mono _ _ _ _ _)
   | (with_reducible exact money_Max.mono _ _ _ _ _)
   | (with_reducible exact money_Min.mono _ _ _ _ _)
   | (with_reducible exact money_Neg.mono _ _ _)
   | (with_reducible exact money_Sub.mono _ _ _ _ _)
   | (with_reducible exact LeO.refl _)
   | (with_reducible exact LeO.none _)
   | (with_reducible refine LeO.ite ?_ ?_)
   | (with_reducible refine LeO.bind ?_ (fun _ => ?_))
   | exact ih0 _ _ _ _ _ _ _
   | exact ih1 _ _ _ _ _ _ _
   | exact levylaw1_known.mono _
   | exact money_Add.mono _ _ _ _ _
   | exact money_Max.mono _ _ _ _ _
   | exact money_Min.mono _ _ _ _ _
   | exact money_Neg.mono _ _ _
   | exact money_Sub.mono _ _ _ _ _
   | exact LeO.none _
   | refine LeO.ite ?_ ?_
   | refine LeO.bind ?_ (fun _ => ?_)
def levylaw1_MoneyBack.T6 : Bool × List (List Nat × List Nat) := (true, [([], []), ([], []), ([], []), ([1, 2], [1, 2]), ([0, 3], [0, 3]), ([4, 3], [4]), ([5], [5]), ([6, 5, 5], [5, 6]), ([7, 7, 5], [5, 7]), ([5], [5]), ([8, 9, 5], [5, 8, 9]), ([5, 10], [5, 10]), ([11, 8], [11]), ([12], [12]), ([12], [12]), ([13, 14, 12, 12], [12, 13, 14]), ([12], [12]), ([12], [12]), ([17, 15, 12], [12, 17]), ([16, 18, 18, 12], [12, 16, 18]), ([15, 19, 12], [12, 15, 19]), ([12, 20], [12, 20])])
def levylaw1_MoneyBack.B6 : List Nat := [0, 0, 0, 6, 15, 31, 63, 127, 255, 63, 1023, 2047, 4095, 8191, 8191, 32767, 8191, 8191, 196607, 524287, 1048575, 2097151]
theorem levylaw1_MoneyBack.tab6 : rtab .any (opsOf Tryd.f15 6) = levylaw1_MoneyBack.T6 := by kernel_rfl
theorem levylaw1_MoneyBack.bits6 : waitsOk levylaw1_MoneyBack.T6.2 levylaw1_MoneyBack.B6 = true := by kernel_rfl
def levylaw1_MoneyBack.T8 : Bool × List (List Nat × List Nat) := (true, [([], []), ([], []), ([0, 1], [0, 1]), ([], []), ([], []), ([3, 4, 2], [3, 4]), ([2, 5], [2, 5]), ([], []), ([], []), ([7, 8], [7, 8]), ([6, 9], [6, 9])])
def levylaw1_MoneyBack.B8 : List Nat := [0, 0, 3, 0, 0, 31, 63, 0, 0, 384, 1023]
theorem levylaw1_MoneyBack.tab8 : rtab .any (opsOf Tryd.f15 8) = levylaw1_MoneyBack.T8 := by kernel_rfl
theorem levylaw1_MoneyBack.bits8 : waitsOk levylaw1_MoneyBack.T8.2 levylaw1_MoneyBack.B8 = true := by kernel_rfl
def levylaw1_MoneyBack.T10 : Bool × List (List Nat × List Nat) := (true, [([], []), ([0], [0]), ([1], [1]), ([2], [2]), ([3], [3]), ([3], [3]), ([4, 5, 3, 3], [3, 4, 5]), ([3], [3]), ([6, 7, 3], [3, 6, 7]), ([3, 8], [3, 8]), ([9, 6, 0, 1, 2, 3, 4, 5, 6, 7, 8, 9], [9])])
def levylaw1_MoneyBack.B10 : List Nat := [0, 1, 3, 7, 15, 15, 63, 15, 255, 511, 1023]
theorem levylaw1_MoneyBack.tab10 : rtab .any (opsOf Tryd.f15 10) = levylaw1_MoneyBack.T10 := by kernel_rfl
theorem levylaw1_MoneyBack.bits10 : waitsOk levylaw1_MoneyBack.T10.2 levylaw1_MoneyBack.B10 = true := by kernel_rfl
set_option maxHeartbeats 8000000 in
set_option maxRecDepth 100000 in
theorem levylaw1_MoneyBack.calls (k : Nat) (a0_0 : Int) (a0_1 : Int) (a1_0 : Int) (a1_1 : Int) (r : Bool) (w : World) (h : levylaw1_MoneyBack.f k a0_0 a0_1 a1_0 a1_1 = some r) (hg0 : Kd.C k87 w (some ⟨0, 0, none⟩) gtab0.length gtab0) :
  Calls Tryd.prog 15 #[.agg #[.int .i64 a0_0, .int .i64 a0_1], .agg #[.int .i64 a1_0, .int .i64 a1_1]] w fun e w' => e = .returned (.bool r) ∧ Below w.heap.size w w' := by
 have HG0 := Aside0.mk hg0
 clear hg0
 have hu23 := Tryd.underlying23
 have HB := Aside0.mk (Below.refl w.heap.size w)
 have H : ((levylaw1_known.f k).bind fun t785 => (if t785 = true then ((money_Add.f k a0_0 a0_1 a1_0 a1_1).bind fun bt786 => ((money_Valid.f a0_0 a0_1).bind fun t789 => (if t789 = true then ((money_Valid.f a1_0 a1_1).bind fun t790 => (if t790 = true then (if a0_0 = a1_0 then (if a0_0 = 1 then (levylaw1_MoneyBack.j0 k false a0_0 a0_1 a1_0 a1_1 bt786.1 bt786.2) else (levylaw1_MoneyBack.j0 k (a0_0 != 2) a0_0 a0_1 a1_0 a1_1 bt786.1 bt786.2)) else (levylaw1_MoneyBack.j0 k true a0_0 a0_1 a1_0 a1_1 bt786.1 bt786.2)) else (levylaw1_MoneyBack.j0 k true a0_0 a0_1 a1_0 a1_1 bt786.1 bt786.2))) else (levylaw1_MoneyBack.j0 k true a0_0 a0_1 a1_0 a1_1 bt786.1 bt786.2)))) else (some false))) = some r := h
 clear h
 replace H := Option.bind_eq_some_iff.mp H
 obtain ⟨t785, A30, H⟩ := H
 replace H : (if t785 = true then ((money_Add.f k a0_0 a0_1 a1_0 a1_1).bind fun bt786 => ((money_Valid.f a0_0 a0_1).bind fun t789 => (if t789 = true then ((money_Valid.f a1_0 a1_1).bind fun t790 => (if t790 = true then (if a0_0 = a1_0 then (if a0_0 = 1 then (levylaw1_MoneyBack.j0 k false a0_0 a0_1 a1_0 a1_1 bt786.1 bt786.2) else (levylaw1_MoneyBack.j0 k (a0_0 != 2) a0_0 a0_1 a1_0 a1_1 bt786.1 bt786.2)) else (levylaw1_MoneyBack.j0 k true a0_0 a0_1 a1_0 a1_1 bt786.1 bt786.2)) else (levylaw1_MoneyBack.j0 k true a0_0 a0_1 a1_0 a1_1 bt786.1 bt786.2))) else (levylaw1_MoneyBack.j0 k true a0_0 a0_1 a1_0 a1_1 bt786.1 bt786.2)))) else (some false)) = some r := H
 have A3 := Aside0.mk A30
 clear A30
 by_cases c4 : t785 = true
 ·subst c4
  have H1 : ((money_Add.f k a0_0 a0_1 a1_0 a1_1).bind fun bt786 => ((money_Valid.f a0_0 a0_1).bind fun t789 => (if t789 = true then ((money_Valid.f a1_0 a1_1).bind fun t790 => (if t790 = true then (if a0_0 = a1_0 then (if a0_0 = 1 then (levylaw1_MoneyBack.j0 k false a0_0 a0_1 a1_0 a1_1 bt786.1 bt786.2) else (levylaw1_MoneyBack.j0 k (a0_0 != 2) a0_0 a0_1 a1_0 a1_1 bt786.1 bt786.2)) else (levylaw1_MoneyBack.j0 k true a0_0 a0_1 a1_0 a1_1 bt786.1 bt786.2)) else (levylaw1_MoneyBack.j0 k true a0_0 a0_1 a1_0 a1_1 bt786.1 bt786.2))) else (levylaw1_MoneyBack.j0 k true a0_0 a0_1 a1_0 a1_1 bt786.1 bt786.2)))) = some r := by rw [if_pos rfl] at H; exact H
  clear H
  have H := H1
  clear H1
  replace H := Option.bind_eq_some_iff.mp H
  obtain ⟨⟨t786, t787⟩, A50, H⟩ := H
  replace H : ((money_Valid.f a0_0 a0_1).bind fun t789 => (if t789 = true then ((money_Valid.f a1_0 a1_1).bind fun t790 => (if t790 = true then (if a0_0 = a1_0 then (if a0_0 = 1 then (levylaw1_MoneyBack.j0 k false a0_0 a0_1 a1_0 a1_1 t786 t787) else (levylaw1_MoneyBack.j0 k (a0_0 != 2) a0_0 a0_1 a1_0 a1_1 t786 t787)) else (levylaw1_MoneyBack.j0 k true a0_0 a0_1 a1_0 a1_1 t786 t787)) else (levylaw1_MoneyBack.j0 k true a0_0 a0_1 a1_0 a1_1 t786 t787))) else (levylaw1_MoneyBack.j0 k true a0_0 a0_1 a1_0 a1_1 t786 t787))) = some r := H
  have A5 := Aside0.mk A50
  clear A50
  have HC6 := Aside0.mk H
  clear H
  go_enter Tryd.func15, Tryd.ntmps15
  go_upto_region 4 with (first | ((with_reducible refine gate_dst (N := 2) rfl ?_); refine box_event ?hg (N := 2) ?hd (cs := #[.int .i64 a0_0, .int .i64 a0_1]) (t := 23) ?hr ?_; (case hd => rfl); (case hg => rfl); (case hr => first | (go_simp; done) | (go_simp; rfl)); intro gb783 hg w7 hbox hb; have n0_ := Aside0.mk (below_step blx hb); have n1_ := Aside0.mk (hbox); have n2_ := Aside0.mk ((by rw [hg]; exact (below_size blx) : w.heap.size ≤ gb783)); have n3_ := Aside0.mk ((by rw [hg]; exact (below_size blx) : w.heap.size ≤ gb783)); clear HB; have HB := n0_; have BK783 := n1_; have GW783 := n2_; have GE783 := n3_; clear n0_ n1_ n2_ n3_; clear hb hbox hg) | ((with_reducible refine gate_dst (N := 3) rfl ?_); refine box_event ?hg (N := 3) ?hd (cs := #[.int .i64 a1_0, .int .i64 a1_1]) (t := 23) ?hr ?_; (case hd => rfl); (case hg => rfl); (case hr => first | (go_simp; done) | (go_simp; rfl)); intro gb784 hg w8 hbox hb; have n0_ := Aside0.mk (blk_below (g := gb783) (o := .cells #[.int .i64 a0_0, .int .i64 a0_1] 23 (0, 0)) bkx hb); have n1_ := Aside0.mk (below_step blx hb); have n2_ := Aside0.mk (hbox); have n3_ := Aside0.mk ((by rw [hg]; exact (below_size blx) : w.heap.size ≤ gb784)); have n4_ := Aside0.mk ((by rw [hg]; exact (below_size blx) : w.heap.size ≤ gb784)); have n5_ := Aside0.mk ((by rw [hg]; exact Nat.ne_of_lt (blk_lt (g := gb783) (o := .cells #[.int .i64 a0_0, .int .i64 a0_1] 23 (0, 0)) bkx) : gb783 ≠ gb784)); have n6_ := Aside0.mk ((by rw [hg]; exact Nat.ne_of_gt (blk_lt (g := gb783) (o := .cells #[.int .i64 a0_0, .int .i64 a0_1] 23 (0, 0)) bkx) : gb784 ≠ gb783)); clear BK783; clear HB; have BK783 := n0_; have HB := n1_; have BK784 := n2_; have GW784 := n3_; have GE784 := n4_; have NB783_784 := n5_; have NB784_783 := n6_; clear n0_ n1_ n2_ n3_ n4_ n5_ n6_; clear hb hbox hg) | ((with_reducible refine gate_callee (f := 51) rfl ?_); refine goesL_ (some 6) rfl rfl Tryd.func51 (by kernel_rfl) rfl #[] rfl agx ?_; (with_reducible refine (levylaw1_known.calls k  true _ A3.out (by first | exact HG0.out | exact Kd.C_below HG0.out blx)).mono ?_); rintro e w9 ⟨rfl, hb⟩; refine ⟨_, rfl, ?_⟩; have n0_ := Aside0.mk (blk_below (g := gb783) (o := .cells #[.int .i64 a0_0, .int .i64 a0_1] 23 (0, 0)) bkx hb); have n1_ := Aside0.mk (blk_below (g := gb784) (o := .cells #[.int .i64 a1_0, .int .i64 a1_1] 23 (0, 0)) bkx hb); have n2_ := Aside0.mk (below_step blx hb); clear BK783; clear BK784; clear HB; have BK783 := n0_; have BK784 := n1_; have HB := n2_; clear n0_ n1_ n2_; (try clear hb); (try clear hb2); (try clear hk); (try clear hi); have hnb10 := NB783_784.out; have hnc10 := NB784_783.out; have hcz11_0 : w9.cell? ⟨gb783, 0, none⟩ = some (.int .i64 a0_0) := (blk_cell BK783.out 0).trans rfl; have hcz11_1 : w9.cell? ⟨gb783, 1, none⟩ = some (.int .i64 a0_1) := (blk_cell BK783.out 1).trans rfl; have hfz11_0 := blk_frozen BK783.out 0; have hfz11_1 := blk_frozen BK783.out 1; have hcz12_0 : w9.cell? ⟨gb784, 0, none⟩ = some (.int .i64 a1_0) := (blk_cell BK784.out 0).trans rfl; have hcz12_1 : w9.cell? ⟨gb784, 1, none⟩ = some (.int .i64 a1_1) := (blk_cell BK784.out 1).trans rfl; have hfz12_0 := blk_frozen BK784.out 0; have hfz12_1 := blk_frozen BK784.out 1) | ((with_reducible refine gate_callee (f := 23) rfl ?_); refine goesL_ (some 10) rfl rfl Tryd.func23 (by kernel_rfl) rfl #[.agg #[.int .i64 a0_0, .int .i64 a0_1], .agg #[.int .i64 a1_0, .int .i64 a1_1]] rfl agx ?_; (with_reducible refine (money_Add.calls k a0_0 a0_1 a1_0 a1_1 t786 t787 _ A5.out (by first | exact HG0.out | exact Kd.C_below HG0.out blx)).mono ?_); rintro e w13 ⟨rfl, hb⟩; refine ⟨_, rfl, ?_⟩; have n0_ := Aside0.mk (blk_below (g := gb783) (o := .cells #[.int .i64 a0_0, .int .i64 a0_1] 23 (0, 0)) bkx hb); have n1_ := Aside0.mk (blk_below (g := gb784) (o := .cells #[.int .i64 a1_0, .int .i64 a1_1] 23 (0, 0)) bkx hb); have n2_ := Aside0.mk (below_step blx hb); clear BK783; clear BK784; clear HB; have BK783 := n0_; have BK784 := n1_; have HB := n2_; clear n0_ n1_ n2_; (try clear hb); (try clear hb2); (try clear hk); (try clear hi)) | ((with_reducible refine gate_dst (N := 5) rfl ?_); refine box_event ?hg (N := 5) ?hd (cs := #[.int .i64 0, .int .i64 0]) (t := 23) ?hr ?_; (case hd => rfl); (case hg => rfl); (case hr => first | (go_simp; done) | (go_simp; rfl)); intro gb788 hg w14 hbox hb; have n0_ := Aside0.mk (blk_below (g := gb783) (o := .cells #[.int .i64 a0_0, .int .i64 a0_1] 23 (0, 0)) bkx hb); have n1_ := Aside0.mk (blk_below (g := gb784) (o := .cells #[.int .i64 a1_0, .int .i64 a1_1] 23 (0, 0)) bkx hb); have n2_ := Aside0.mk (below_step blx hb); have n3_ := Aside0.mk (hbox); have n4_ := Aside0.mk ((by rw [hg]; exact (below_size blx) : w.heap.size ≤ gb788)); have n5_ := Aside0.mk ((by rw [hg]; exact (below_size blx) : w.heap.size ≤ gb788)); have n6_ := Aside0.mk ((by rw [hg]; exact Nat.ne_of_lt (blk_lt (g := gb783) (o := .cells #[.int .i64 a0_0, .int .i64 a0_1] 23 (0, 0)) bkx) : gb783 ≠ gb788)); have n7_ := Aside0.mk ((by rw [hg]; exact Nat.ne_of_gt (blk_lt (g := gb783) (o := .cells #[.int .i64 a0_0, .int .i64 a0_1] 23 (0, 0)) bkx) : gb788 ≠ gb783)); have n8_ := Aside0.mk ((by rw [hg]; exact Nat.ne_of_lt (blk_lt (g := gb784) (o := .cells #[.int .i64 a1_0, .int .i64 a1_1] 23 (0, 0)) bkx) : gb784 ≠ gb788)); have n9_ := Aside0.mk ((by rw [hg]; exact Nat.ne_of_gt (blk_lt (g := gb784) (o := .cells #[.int .i64 a1_0, .int .i64 a1_1] 23 (0, 0)) bkx) : gb788 ≠ gb784)); clear BK783; clear BK784; clear HB; have BK783 := n0_; have BK784 := n1_; have HB := n2_; have BK788 := n3_; have GW788 := n4_; have GE788 := n5_; have NB783_788 := n6_; have NB788_783 := n7_; have NB784_788 := n8_; have NB788_784 := n9_; clear n0_ n1_ n2_ n3_ n4_ n5_ n6_ n7_ n8_ n9_; clear hb hbox hg; have hnb15 := NB788_783.out; have hnc15 := NB783_788.out; have hnb16 := NB788_784.out; have hnc16 := NB784_788.out; have hcz17_0 : w14.cell? ⟨gb788, 0, none⟩ = some (.int .i64 0) := (blk_cell BK788.out 0).trans rfl; have hcz17_1 : w14.cell? ⟨gb788, 1, none⟩ = some (.int .i64 0) := (blk_cell BK788.out 1).trans rfl; have hfz17_0 := blk_frozen BK788.out 0; have hfz17_1 := blk_frozen BK788.out 1))
  (try simp only [Act.put, List.setIfInBounds_toArray, List.set_cons_zero, List.set_cons_succ])
  go_cut [35] (fun v35 wc => ∃ (kq : Nat) (x35_5 : Bool), v35 = .bool x35_5 ∧ Aside0 (levylaw1_MoneyBack.j0 kq x35_5 a0_0 a0_1 a1_0 a1_1 t786 t787 = some r) ∧ Aside0 (kq ≤ k) ∧ Aside0 (wc.heap[gb783]? = some (.cells #[.int .i64 a0_0, .int .i64 a0_1] 23 (0, 0))) ∧ Aside0 (wc.heap[gb784]? = some (.cells #[.int .i64 a1_0, .int .i64 a1_1] 23 (0, 0))) ∧ Aside0 (wc.heap[gb788]? = some (.cells #[.int .i64 t786, .int .i64 t787] 23 (0, 0))) ∧ Aside0 (Below w.heap.size w wc))
  case first =>
   have H := HC6.out
   clear HC6
   replace H := Option.bind_eq_some_iff.mp H
   obtain ⟨t789, A180, H⟩ := H
   replace H : (if t789 = true then ((money_Valid.f a1_0 a1_1).bind fun t790 => (if t790 = true then (if a0_0 = a1_0 then (if a0_0 = 1 then (levylaw1_MoneyBack.j0 k false a0_0 a0_1 a1_0 a1_1 t786 t787) else (levylaw1_MoneyBack.j0 k (a0_0 != 2) a0_0 a0_1 a1_0 a1_1 t786 t787)) else (levylaw1_MoneyBack.j0 k true a0_0 a0_1 a1_0 a1_1 t786 t787)) else (levylaw1_MoneyBack.j0 k true a0_0 a0_1 a1_0 a1_1 t786 t787))) else (levylaw1_MoneyBack.j0 k true a0_0 a0_1 a1_0 a1_1 t786 t787)) = some r := H
   have A18 := Aside0.mk A180
   clear A180
   by_cases c19 : t789 = true
   ·subst c19
    have H1 : ((money_Valid.f a1_0 a1_1).bind fun t790 => (if t790 = true then (if a0_0 = a1_0 then (if a0_0 = 1 then (levylaw1_MoneyBack.j0 k false a0_0 a0_1 a1_0 a1_1 t786 t787) else (levylaw1_MoneyBack.j0 k (a0_0 != 2) a0_0 a0_1 a1_0 a1_1 t786 t787)) else (levylaw1_MoneyBack.j0 k true a0_0 a0_1 a1_0 a1_1 t786 t787)) else (levylaw1_MoneyBack.j0 k true a0_0 a0_1 a1_0 a1_1 t786 t787))) = some r := by rw [if_pos rfl] at H; exact H
    clear H
    have H := H1
    clear H1
    replace H := Option.bind_eq_some_iff.mp H
    obtain ⟨t790, A200, H⟩ := H
    replace H : (if t790 = true then (if a0_0 = a1_0 then (if a0_0 = 1 then (levylaw1_MoneyBack.j0 k false a0_0 a0_1 a1_0 a1_1 t786 t787) else (levylaw1_MoneyBack.j0 k (a0_0 != 2) a0_0 a0_1 a1_0 a1_1 t786 t787)) else (levylaw1_MoneyBack.j0 k true a0_0 a0_1 a1_0 a1_1 t786 t787)) else (levylaw1_MoneyBack.j0 k true a0_0 a0_1 a1_0 a1_1 t786 t787)) = some r := H
    have A20 := Aside0.mk A200
    clear A200
    by_cases c21 : t790 = true
    ·subst c21
     have H1 : (if a0_0 = a1_0 then (if a0_0 = 1 then (levylaw1_MoneyBack.j0 k false a0_0 a0_1 a1_0 a1_1 t786 t787) else (levylaw1_MoneyBack.j0 k (a0_0 != 2) a0_0 a0_1 a1_0 a1_1 t786 t787)) else (levylaw1_MoneyBack.j0 k true a0_0 a0_1 a1_0 a1_1 t786 t787)) = some r := by rw [if_pos rfl] at H; exact H
     clear H
     have H := H1
     clear H1
     by_cases c22 : a0_0 = a1_0
     ·rw [if_pos c22] at H
      have c22b0 : (a0_0 == a1_0) = true := beq_iff_eq.mpr c22
      have c22b1 : (a0_0 != a1_0) = false := bne_eq_false_iff_eq.mpr c22
      clear c22
      (first | rw [c22b0] | (simp only [i64_w, i32_w]; rw [c22b0]) | skip)
      by_cases c23 : a0_0 = 1
      ·rw [if_pos c23] at H
       have c23b0 : (a0_0 == 1) = true := beq_iff_eq.mpr c23
       have c23b1 : (a0_0 != 1) = false := bne_eq_false_iff_eq.mpr c23
       clear c23
       have H' := Aside0.mk H
       clear H
       have hnb24 := NB783_784.out
       have hnc24 := NB784_783.out
       have hnb25 := NB783_788.out
       have hnc25 := NB788_783.out
       have hcz26_0 : w14.cell? ⟨gb783, 0, none⟩ = some (.int .i64 a0_0) := (blk_cell BK783.out 0).trans rfl
       have hcz26_1 : w14.cell? ⟨gb783, 1, none⟩ = some (.int .i64 a0_1) := (blk_cell BK783.out 1).trans rfl
       have hfz26_0 := blk_frozen BK783.out 0
       have hfz26_1 := blk_frozen BK783.out 1
       go_wp2_with (first | ((with_reducible refine gate_callee (f := 18) rfl ?_); refine goesL_ (some 12) rfl rfl Tryd.func18 (by kernel_rfl) rfl #[.agg #[.int .i64 a0_0, .int .i64 a0_1]] rfl agx ?_; (with_reducible refine (money_Valid.calls a0_0 a0_1 true _ A18.out (by first | exact HG0.out | exact Kd.C_below HG0.out blx)).mono ?_); rintro e w27 ⟨rfl, hb⟩; refine ⟨_, rfl, ?_⟩; have n0_ := Aside0.mk (blk_below (g := gb783) (o := .cells #[.int .i64 a0_0, .int .i64 a0_1] 23 (0, 0)) bkx hb); have n1_ := Aside0.mk (blk_below (g := gb784) (o := .cells #[.int .i64 a1_0, .int .i64 a1_1] 23 (0, 0)) bkx hb); have n2_ := Aside0.mk (blk_below (g := gb788) (o := .cells #[.int .i64 t786, .int .i64 t787] 23 (0, 0)) (by (with_reducible repeat (first | refine blk_drewN ?_ _ | refine blk_drew ?_ | refine blk_alloc ?_ _)); refine blk_put (cs := #[.int .i64 t786, .int .i64 0]) ?_ 1 _ rfl; (with_reducible repeat (first | refine blk_drewN ?_ _ | refine blk_drew ?_ | refine blk_alloc ?_ _)); refine blk_put (cs := #[.int .i64 0, .int .i64 0]) ?_ 0 _ rfl; (with_reducible repeat (first | refine blk_drewN ?_ _ | refine blk_drew ?_ | refine blk_alloc ?_ _)); exact BK788.out) hb); have n3_ := Aside0.mk (below_step blx hb); clear BK783; clear BK784; clear BK788; clear HB; have BK783 := n0_; have BK784 := n1_; have BK788 := n2_; have HB := n3_; clear n0_ n1_ n2_ n3_; (try clear hb); (try clear hb2); (try clear hk); (try clear hi); have hnb28 := NB784_788.out; have hnc28 := NB788_784.out; have hcz29_0 : w27.cell? ⟨gb784, 0, none⟩ = some (.int .i64 a1_0) := (blk_cell BK784.out 0).trans rfl; have hcz29_1 : w27.cell? ⟨gb784, 1, none⟩ = some (.int .i64 a1_1) := (blk_cell BK784.out 1).trans rfl; have hfz29_0 := blk_frozen BK784.out 0; have hfz29_1 := blk_frozen BK784.out 1) | (go_at_call 18; (with_reducible refine (money_Valid.calls a1_0 a1_1 true _ A20.out (by first | exact HG0.out | exact Kd.C_below HG0.out blx)).mono ?_); rintro e w30 ⟨rfl, hb⟩; have n0_ := Aside0.mk (blk_below (g := gb783) (o := .cells #[.int .i64 a0_0, .int .i64 a0_1] 23 (0, 0)) bkx hb); have n1_ := Aside0.mk (blk_below (g := gb784) (o := .cells #[.int .i64 a1_0, .int .i64 a1_1] 23 (0, 0)) bkx hb); have n2_ := Aside0.mk (blk_below (g := gb788) (o := .cells #[.int .i64 t786, .int .i64 t787] 23 (0, 0)) bkx hb); have n3_ := Aside0.mk (below_step blx hb); clear BK783; clear BK784; clear BK788; clear HB; have BK783 := n0_; have BK784 := n1_; have BK788 := n2_; have HB := n3_; clear n0_ n1_ n2_ n3_; (try clear hb); (try clear hb2); (try clear hk); (try clear hi); have hcz31_0 : w30.cell? ⟨gb783, 0, none⟩ = some (.int .i64 a0_0) := (blk_cell BK783.out 0).trans rfl; have hcz31_1 : w30.cell? ⟨gb783, 1, none⟩ = some (.int .i64 a0_1) := (blk_cell BK783.out 1).trans rfl; have hfz31_0 := blk_frozen BK783.out 0; have hfz31_1 := blk_frozen BK783.out 1; have hcz32_0 : w30.cell? ⟨gb784, 0, none⟩ = some (.int .i64 a1_0) := (blk_cell BK784.out 0).trans rfl; have hcz32_1 : w30.cell? ⟨gb784, 1, none⟩ = some (.int .i64 a1_1) := (blk_cell BK784.out 1).trans rfl; have hfz32_0 := blk_frozen BK784.out 0; have hfz32_1 := blk_frozen BK784.out 1))
       go_meet
       case rel => exact ⟨_, (false), (by first | rfl | (simp; done) | (simp [*]; done)), H', ⟨by first | omega | exact Nat.le_refl _⟩, ⟨bkx⟩, ⟨bkx⟩, ⟨bkx⟩, ⟨blx⟩⟩
      ·rw [if_neg c23] at H
       have c23b0 : (a0_0 == 1) = false := beq_eq_false_iff_ne.mpr c23
       have c23b1 : (a0_0 != 1) = true := bne_iff_ne.mpr c23
       have H' := Aside0.mk H
       clear H
       have hnb33 := NB783_784.out
       have hnc33 := NB784_783.out
       have hnb34 := NB783_788.out
       have hnc34 := NB788_783.out
       have hcz35_0 : w14.cell? ⟨gb783, 0, none⟩ = some (.int .i64 a0_0) := (blk_cell BK783.out 0).trans rfl
       have hcz35_1 : w14.cell? ⟨gb783, 1, none⟩ = some (.int .i64 a0_1) := (blk_cell BK783.out 1).trans rfl
       have hfz35_0 := blk_frozen BK783.out 0
       have hfz35_1 := blk_frozen BK783.out 1
       go_wp2_with (first | ((with_reducible refine gate_callee (f := 18) rfl ?_); refine goesL_ (some 12) rfl rfl Tryd.func18 (by kernel_rfl) rfl #[.agg #[.int .i64 a0_0, .int .i64 a0_1]] rfl agx ?_; (with_reducible refine (money_Valid.calls a0_0 a0_1 true _ A18.out (by first | exact HG0.out | exact Kd.C_below HG0.out blx)).mono ?_); rintro e w36 ⟨rfl, hb⟩; refine ⟨_, rfl, ?_⟩; have n0_ := Aside0.mk (blk_below (g := gb783) (o := .cells #[.int .i64 a0_0, .int .i64 a0_1] 23 (0, 0)) bkx hb); have n1_ := Aside0.mk (blk_below (g := gb784) (o := .cells #[.int .i64 a1_0, .int .i64 a1_1] 23 (0, 0)) bkx hb); have n2_ := Aside0.mk (blk_below (g := gb788) (o := .cells #[.int .i64 t786, .int .i64 t787] 23 (0, 0)) (by (with_reducible repeat (first | refine blk_drewN ?_ _ | refine blk_drew ?_ | refine blk_alloc ?_ _)); refine blk_put (cs := #[.int .i64 t786, .int .i64 0]) ?_ 1 _ rfl; (with_reducible repeat (first | refine blk_drewN ?_ _ | refine blk_drew ?_ | refine blk_alloc ?_ _)); refine blk_put (cs := #[.int .i64 0, .int .i64 0]) ?_ 0 _ rfl; (with_reducible repeat (first | refine blk_drewN ?_ _ | refine blk_drew ?_ | refine blk_alloc ?_ _)); exact BK788.out) hb); have n3_ := Aside0.mk (below_step blx hb); clear BK783; clear BK784; clear BK788; clear HB; have BK783 := n0_; have BK784 := n1_; have BK788 := n2_; have HB := n3_; clear n0_ n1_ n2_ n3_; (try clear hb); (try clear hb2); (try clear hk); (try clear hi); have hnb37 := NB784_788.out; have hnc37 := NB788_784.out; have hcz38_0 : w36.cell? ⟨gb784, 0, none⟩ = some (.int .i64 a1_0) := (blk_cell BK784.out 0).trans rfl; have hcz38_1 : w36.cell? ⟨gb784, 1, none⟩ = some (.int .i64 a1_1) := (blk_cell BK784.out 1).trans rfl; have hfz38_0 := blk_frozen BK784.out 0; have hfz38_1 := blk_frozen BK784.out 1) | (go_at_call 18; (with_reducible refine (money_Valid.calls a1_0 a1_1 true _ A20.out (by first | exact HG0.out | exact Kd.C_below HG0.out blx)).mono ?_); rintro e w39 ⟨rfl, hb⟩; have n0_ := Aside0.mk (blk_below (g := gb783) (o := .cells #[.int .i64 a0_0, .int .i64 a0_1] 23 (0, 0)) bkx hb); have n1_ := Aside0.mk (blk_below (g := gb784) (o := .cells #[.int .i64 a1_0, .int .i64 a1_1] 23 (0, 0)) bkx hb); have n2_ := Aside0.mk (blk_below (g := gb788) (o := .cells #[.int .i64 t786, .int .i64 t787] 23 (0, 0)) bkx hb); have n3_ := Aside0.mk (below_step blx hb); clear BK783; clear BK784; clear BK788; clear HB; have BK783 := n0_; have BK784 := n1_; have BK788 := n2_; have HB := n3_; clear n0_ n1_ n2_ n3_; (try clear hb); (try clear hb2); (try clear hk); (try clear hi); have hcz40_0 : w39.cell? ⟨gb783, 0, none⟩ = some (.int .i64 a0_0) := (blk_cell BK783.out 0).trans rfl; have hcz40_1 : w39.cell? ⟨gb783, 1, none⟩ = some (.int .i64 a0_1) := (blk_cell BK783.out 1).trans rfl; have hfz40_0 := blk_frozen BK783.out 0; have hfz40_1 := blk_frozen BK783.out 1; have hcz41_0 : w39.cell? ⟨gb784, 0, none⟩ = some (.int .i64 a1_0) := (blk_cell BK784.out 0).trans rfl; have hcz41_1 : w39.cell? ⟨gb784, 1, none⟩ = some (.int .i64 a1_1) := (blk_cell BK784.out 1).trans rfl; have hfz41_0 := blk_frozen BK784.out 0; have hfz41_1 := blk_frozen BK784.out 1))
       go_meet
       case rel => exact ⟨_, ((a0_0 != 2)), (by first | rfl | (simp; done) | (simp [*]; done)), H', ⟨by first | omega | exact Nat.le_refl _⟩, ⟨bkx⟩, ⟨bkx⟩, ⟨bkx⟩, ⟨blx⟩⟩
     ·rw [if_neg c22] at H
      have c22b0 : (a0_0 == a1_0) = false := beq_eq_false_iff_ne.mpr c22
      have c22b1 : (a0_0 != a1_0) = true := bne_iff_ne.mpr c22
      (first | rw [c22b0] | (simp only [i64_w, i32_w]; rw [c22b0]) | skip)
      have H' := Aside0.mk H
      clear H
      have hnb42 := NB783_784.out
      have hnc42 := NB784_783.out
      have hnb43 := NB783_788.out
      have hnc43 := NB788_783.out
      have hcz44_0 : w14.cell? ⟨gb783, 0, none⟩ = some (.int .i64 a0_0) := (blk_cell BK783.out 0).trans rfl
      have hcz44_1 : w14.cell? ⟨gb783, 1, none⟩ = some (.int .i64 a0_1) := (blk_cell BK783.out 1).trans rfl
      have hfz44_0 := blk_frozen BK783.out 0
      have hfz44_1 := blk_frozen BK783.out 1
      go_wp2_with (first | ((with_reducible refine gate_callee (f := 18) rfl ?_); refine goesL_ (some 12) rfl rfl Tryd.func18 (by kernel_rfl) rfl #[.agg #[.int .i64 a0_0, .int .i64 a0_1]] rfl agx ?_; (with_reducible refine (money_Valid.calls a0_0 a0_1 true _ A18.out (by first | exact HG0.out | exact Kd.C_below HG0.out blx)).mono ?_); rintro e w45 ⟨rfl, hb⟩; refine ⟨_, rfl, ?_⟩; have n0_ := Aside0.mk (blk_below (g := gb783) (o := .cells #[.int .i64 a0_0, .int .i64 a0_1] 23 (0, 0)) bkx hb); have n1_ := Aside0.mk (blk_below (g := gb784) (o := .cells #[.int .i64 a1_0, .int .i64 a1_1] 23 (0, 0)) bkx hb); have n2_ := Aside0.mk (blk_below (g := gb788) (o := .cells #[.int .i64 t786, .int .i64 t787] 23 (0, 0)) (by (with_reducible repeat (first | refine blk_drewN ?_ _ | refine blk_drew ?_ | refine blk_alloc ?_ _)); refine blk_put (cs := #[.int .i64 t786, .int .i64 0]) ?_ 1 _ rfl; (with_reducible repeat (first | refine blk_drewN ?_ _ | refine blk_drew ?_ | refine blk_alloc ?_ _)); refine blk_put (cs := #[.int .i64 0, .int .i64 0]) ?_ 0 _ rfl; (with_reducible repeat (first | refine blk_drewN ?_ _ | refine blk_drew ?_ | refine blk_alloc ?_ _)); exact BK788.out) hb); have n3_ := Aside0.mk (below_step blx hb); clear BK783; clear BK784; clear BK788; clear HB; have BK783 := n0_; have BK784 := n1_; have BK788 := n2_; have HB := n3_; clear n0_ n1_ n2_ n3_; (try clear hb); (try clear hb2); (try clear hk); (try clear hi); have hnb46 := NB784_788.out; have hnc46 := NB788_784.out; have hcz47_0 : w45.cell? ⟨gb784, 0, none⟩ = some (.int .i64 a1_0) := (blk_cell BK784.out 0).trans rfl; have hcz47_1 : w45.cell? ⟨gb784, 1, none⟩ = some (.int .i64 a1_1) := (blk_cell BK784.out 1).trans rfl; have hfz47_0 := blk_frozen BK784.out 0; have hfz47_1 := blk_frozen BK784.out 1) | (go_at_call 18; (with_reducible refine (money_Valid.calls a1_0 a1_1 true _ A20.out (by first | exact HG0.out | exact Kd.C_below HG0.out blx)).mono ?_); rintro e w48 ⟨rfl, hb⟩; have n0_ := Aside0.mk (blk_below (g := gb783) (o := .cells #[.int .i64 a0_0, .int .i64 a0_1] 23 (0, 0)) bkx hb); have n1_ := Aside0.mk (blk_below (g := gb784) (o := .cells #[.int .i64 a1_0, .int .i64 a1_1] 23 (0, 0)) bkx hb); have n2_ := Aside0.mk (blk_below (g := gb788) (o := .cells #[.int .i64 t786, .int .i64 t787] 23 (0, 0)) bkx hb); have n3_ := Aside0.mk (below_step blx hb); clear BK783; clear BK784; clear BK788; clear HB; have BK783 := n0_; have BK784 := n1_; have BK788 := n2_; have HB := n3_; clear n0_ n1_ n2_ n3_; (try clear hb); (try clear hb2); (try clear hk); (try clear hi); have hcz49_0 : w48.cell? ⟨gb783, 0, none⟩ = some (.int .i64 a0_0) := (blk_cell BK783.out 0).trans rfl; have hcz49_1 : w48.cell? ⟨gb783, 1, none⟩ = some (.int .i64 a0_1) := (blk_cell BK783.out 1).trans rfl; have hfz49_0 := blk_frozen BK783.out 0; have hfz49_1 := blk_frozen BK783.out 1; have hcz50_0 : w48.cell? ⟨gb784, 0, none⟩ = some (.int .i64 a1_0) := (blk_cell BK784.out 0).trans rfl; have hcz50_1 : w48.cell? ⟨gb784, 1, none⟩ = some (.int .i64 a1_1) := (blk_cell BK784.out 1).trans rfl; have hfz50_0 := blk_frozen BK784.out 0; have hfz50_1 := blk_frozen BK784.out 1))
      go_meet
      case rel => exact ⟨_, (true), (by first | rfl | (simp; done) | (simp [*]; done)), H', ⟨by first | omega | exact Nat.le_refl _⟩, ⟨bkx⟩, ⟨bkx⟩, ⟨bkx⟩, ⟨blx⟩⟩
    ·replace c21 := Bool.eq_false_iff.mpr c21
     subst c21
     have H1 : (levylaw1_MoneyBack.j0 k true a0_0 a0_1 a1_0 a1_1 t786 t787) = some r := by rw [if_neg (show ¬ (false = true) by decide)] at H; exact H
     clear H
     have H := H1
     clear H1
     have H' := Aside0.mk H
     clear H
     have hnb51 := NB783_784.out
     have hnc51 := NB784_783.out
     have hnb52 := NB783_788.out
     have hnc52 := NB788_783.out
     have hcz53_0 : w14.cell? ⟨gb783, 0, none⟩ = some (.int .i64 a0_0) := (blk_cell BK783.out 0).trans rfl
     have hcz53_1 : w14.cell? ⟨gb783, 1, none⟩ = some (.int .i64 a0_1) := (blk_cell BK783.out 1).trans rfl
     have hfz53_0 := blk_frozen BK783.out 0
     have hfz53_1 := blk_frozen BK783.out 1
     go_wp2_with (first | ((with_reducible refine gate_callee (f := 18) rfl ?_); refine goesL_ (some 12) rfl rfl Tryd.func18 (by kernel_rfl) rfl #[.agg #[.int .i64 a0_0, .int .i64 a0_1]] rfl agx ?_; (with_reducible refine (money_Valid.calls a0_0 a0_1 true _ A18.out (by first | exact HG0.out | exact Kd.C_below HG0.out blx)).mono ?_); rintro e w54 ⟨rfl, hb⟩; refine ⟨_, rfl, ?_⟩; have n0_ := Aside0.mk (blk_below (g := gb783) (o := .cells #[.int .i64 a0_0, .int .i64 a0_1] 23 (0, 0)) bkx hb); have n1_ := Aside0.mk (blk_below (g := gb784) (o := .cells #[.int .i64 a1_0, .int .i64 a1_1] 23 (0, 0)) bkx hb); have n2_ := Aside0.mk (blk_below (g := gb788) (o := .cells #[.int .i64 t786, .int .i64 t787] 23 (0, 0)) (by (with_reducible repeat (first | refine blk_drewN ?_ _ | refine blk_drew ?_ | refine blk_alloc ?_ _)); refine blk_put (cs := #[.int .i64 t786, .int .i64 0]) ?_ 1 _ rfl; (with_reducible repeat (first | refine blk_drewN ?_ _ | refine blk_drew ?_ | refine blk_alloc ?_ _)); refine blk_put (cs := #[.int .i64 0, .int .i64 0]) ?_ 0 _ rfl; (with_reducible repeat (first | refine blk_drewN ?_ _ | refine blk_drew ?_ | refine blk_alloc ?_ _)); exact BK788.out) hb); have n3_ := Aside0.mk (below_step blx hb); clear BK783; clear BK784; clear BK788; clear HB; have BK783 := n0_; have BK784 := n1_; have BK788 := n2_; have HB := n3_; clear n0_ n1_ n2_ n3_; (try clear hb); (try clear hb2); (try clear hk); (try clear hi); have hnb55 := NB784_788.out; have hnc55 := NB788_784.out; have hcz56_0 : w54.cell? ⟨gb784, 0, none⟩ = some (.int .i64 a1_0) := (blk_cell BK784.out 0).trans rfl; have hcz56_1 : w54.cell? ⟨gb784, 1, none⟩ = some (.int .i64 a1_1) := (blk_cell BK784.out 1).trans rfl; have hfz56_0 := blk_frozen BK784.out 0; have hfz56_1 := blk_frozen BK784.out 1) | (go_at_call 18; (with_reducible refine (money_Valid.calls a1_0 a1_1 false _ A20.out (by first | exact HG0.out | exact Kd.C_below HG0.out blx)).mono ?_); rintro e w57 ⟨rfl, hb⟩; have n0_ := Aside0.mk (blk_below (g := gb783) (o := .cells #[.int .i64 a0_0, .int .i64 a0_1] 23 (0, 0)) bkx hb); have n1_ := Aside0.mk (blk_below (g := gb784) (o := .cells #[.int .i64 a1_0, .int .i64 a1_1] 23 (0, 0)) bkx hb); have n2_ := Aside0.mk (blk_below (g := gb788) (o := .cells #[.int .i64 t786, .int .i64 t787] 23 (0, 0)) bkx hb); have n3_ := Aside0.mk (below_step blx hb); clear BK783; clear BK784; clear BK788; clear HB; have BK783 := n0_; have BK784 := n1_; have BK788 := n2_; have HB := n3_; clear n0_ n1_ n2_ n3_; (try clear hb); (try clear hb2); (try clear hk); (try clear hi)))
     go_meet
     case rel => exact ⟨_, (true), (by first | rfl | (simp; done) | (simp [*]; done)), H', ⟨by first | omega | exact Nat.le_refl _⟩, ⟨bkx⟩, ⟨bkx⟩, ⟨bkx⟩, ⟨blx⟩⟩
   ·replace c19 := Bool.eq_false_iff.mpr c19
    subst c19
    have H1 : (levylaw1_MoneyBack.j0 k true a0_0 a0_1 a1_0 a1_1 t786 t787) = some r := by rw [if_neg (show ¬ (false = true) by decide)] at H; exact H
    clear H
    have H := H1
    clear H1
    have H' := Aside0.mk H
    clear H
    have hnb58 := NB783_784.out
    have hnc58 := NB784_783.out
    have hnb59 := NB783_788.out
    have hnc59 := NB788_783.out
    have hcz60_0 : w14.cell? ⟨gb783, 0, none⟩ = some (.int .i64 a0_0) := (blk_cell BK783.out 0).trans rfl
    have hcz60_1 : w14.cell? ⟨gb783, 1, none⟩ = some (.int .i64 a0_1) := (blk_cell BK783.out 1).trans rfl
    have hfz60_0 := blk_frozen BK783.out 0
    have hfz60_1 := blk_frozen BK783.out 1
    go_wp2_with (first | ((with_reducible refine gate_callee (f := 18) rfl ?_); refine goesL_ (some 12) rfl rfl Tryd.func18 (by kernel_rfl) rfl #[.agg #[.int .i64 a0_0, .int .i64 a0_1]] rfl agx ?_; (with_reducible refine (money_Valid.calls a0_0 a0_1 false _ A18.out (by first | exact HG0.out | exact Kd.C_below HG0.out blx)).mono ?_); rintro e w61 ⟨rfl, hb⟩; refine ⟨_, rfl, ?_⟩; have n0_ := Aside0.mk (blk_below (g := gb783) (o := .cells #[.int .i64 a0_0, .int .i64 a0_1] 23 (0, 0)) bkx hb); have n1_ := Aside0.mk (blk_below (g := gb784) (o := .cells #[.int .i64 a1_0, .int .i64 a1_1] 23 (0, 0)) bkx hb); have n2_ := Aside0.mk (blk_below (g := gb788) (o := .cells #[.int .i64 t786, .int .i64 t787] 23 (0, 0)) (by (with_reducible repeat (first | refine blk_drewN ?_ _ | refine blk_drew ?_ | refine blk_alloc ?_ _)); refine blk_put (cs := #[.int .i64 t786, .int .i64 0]) ?_ 1 _ rfl; (with_reducible repeat (first | refine blk_drewN ?_ _ | refine blk_drew ?_ | refine blk_alloc ?_ _)); refine blk_put (cs := #[.int .i64 0, .int .i64 0]) ?_ 0 _ rfl; (with_reducible repeat (first | refine blk_drewN ?_ _ | refine blk_drew ?_ | refine blk_alloc ?_ _)); exact BK788.out) hb); have n3_ := Aside0.mk (below_step blx hb); clear BK783; clear BK784; clear BK788; clear HB; have BK783 := n0_; have BK784 := n1_; have BK788 := n2_; have HB := n3_; clear n0_ n1_ n2_ n3_; (try clear hb); (try clear hb2); (try clear hk); (try clear hi)))
    go_meet
    case rel => exact ⟨_, (true), (by first | rfl | (simp; done) | (simp [*]; done)), H', ⟨by first | omega | exact Nat.le_refl _⟩, ⟨bkx⟩, ⟨bkx⟩, ⟨bkx⟩, ⟨blx⟩⟩
  case rest =>
   clear HC6
   try clear c1
   try clear c2
   try clear p2
   try clear c3
   try clear c4
   try clear c5
   try clear c10
   try clear c15
   try clear c16
   try clear c18
   try clear c19
   try clear c21
   try clear c22
   try clear c22b0
   try clear c22b1
   try clear c23
   try clear c23b0
   try clear c23b1
   try clear c24
   try clear c25
   try clear c28
   try clear c33
   try clear c34
   try clear c37
   try clear c42
   try clear c43
   try clear c46
   try clear c51
   try clear c52
   try clear c55
   try clear c58
   try clear c59
   try clear hcz11_0
   try clear hcz11_1
   try clear hcz12_0
   try clear hcz12_1
   try clear hcz17_0
   try clear hcz17_1
   try clear hcz26_0
   try clear hcz26_1
   try clear hcz29_0
   try clear hcz29_1
   try clear hcz31_0
   try clear hcz31_1
   try clear hcz32_0
   try clear hcz32_1
   try clear hcz35_0
   try clear hcz35_1
   try clear hcz38_0
   try clear hcz38_1
   try clear hcz40_0
   try clear hcz40_1
   try clear hcz41_0
   try clear hcz41_1
   try clear hcz44_0
   try clear hcz44_1
   try clear hcz47_0
   try clear hcz47_1
   try clear hcz49_0
   try clear hcz49_1
   try clear hcz50_0
   try clear hcz50_1
   try clear hcz53_0
   try clear hcz53_1
   try clear hcz56_0
   try clear hcz56_1
   try clear hcz60_0
   try clear hcz60_1
   try clear hfz11_0
   try clear hfz11_1
   try clear hfz12_0
   try clear hfz12_1
   try clear hfz17_0
   try clear hfz17_1
   try clear hfz26_0
   try clear hfz26_1
   try clear hfz29_0
   try clear hfz29_1
   try clear hfz31_0
   try clear hfz31_1
   try clear hfz32_0
   try clear hfz32_1
   try clear hfz35_0
   try clear hfz35_1
   try clear hfz38_0
   try clear hfz38_1
   try clear hfz40_0
   try clear hfz40_1
   try clear hfz41_0
   try clear hfz41_1
   try clear hfz44_0
   try clear hfz44_1
   try clear hfz47_0
   try clear hfz47_1
   try clear hfz49_0
   try clear hfz49_1
   try clear hfz50_0
   try clear hfz50_1
   try clear hfz53_0
   try clear hfz53_1
   try clear hfz56_0
   try clear hfz56_1
   try clear hfz60_0
   try clear hfz60_1
   obtain ⟨kq, x35_5, rfl, HA, HJ5, BK783, BK784, BK788, HB⟩ := hcut
   cases kq with
   | zero => exact absurd HA.out (by simp [levylaw1_MoneyBack.j0])
   | succ kj5 =>
    have H := HA.out
    clear HA
    simp only [levylaw1_MoneyBack.j0] at H
    by_cases c62 : x35_5 = true
    ·subst c62
     have H1 : (some (t786 == 6)) = some r := by rw [if_pos rfl] at H; exact H
     clear H
     have H := H1
     clear H1
     obtain rfl := Option.some.inj H
     have hnb63 := NB788_783.out
     have hnc63 := NB783_788.out
     have hnb64 := NB788_784.out
     have hnc64 := NB784_788.out
     have hcz65_0 : wc.cell? ⟨gb788, 0, none⟩ = some (.int .i64 t786) := (blk_cell BK788.out 0).trans rfl
     have hcz65_1 : wc.cell? ⟨gb788, 1, none⟩ = some (.int .i64 t787) := (blk_cell BK788.out 1).trans rfl
     have hfz65_0 := blk_frozen BK788.out 0
     have hfz65_1 := blk_frozen BK788.out 1
     go_wp2
     go_ret
     exact ⟨by first | rfl | (simp [errW_none, errW_some] <;> rfl) | (simp [*, errW_none, errW_some] <;> rfl), blx⟩
    ·replace c62 := Bool.eq_false_iff.mpr c62
     subst c62
     have H1 : ((money_Add.f kj5 a1_0 a1_1 a0_0 a0_1).bind fun bt791 => (if (!(t786 == bt791.1) || (!(t787 == bt791.2))) = true then (levylaw1_MoneyBack.j1 kj5 true a0_0 a0_1 a1_0 a1_1 t786 t787) else ((money_Neg.f kj5 a0_0 a0_1).bind fun bt793 => ((money_Neg.f kj5 bt793.1 bt793.2).bind fun bt795 => (if (!(bt795.1 == a0_0) || (!(bt795.2 == a0_1))) = true then (levylaw1_MoneyBack.j1 kj5 true a0_0 a0_1 a1_0 a1_1 t786 t787) else ((money_Sub.f kj5 a0_0 a0_1 a1_0 a1_1).bind fun bt797 => ((money_Neg.f kj5 a1_0 a1_1).bind fun bt799 => ((money_Add.f kj5 a0_0 a0_1 bt799.1 bt799.2).bind fun bt801 => (levylaw1_MoneyBack.j1 kj5 (!(bt797.1 == bt801.1) || (!(bt797.2 == bt801.2))) a0_0 a0_1 a1_0 a1_1 t786 t787))))))))) = some r := by rw [if_neg (show ¬ (false = true) by decide)] at H; exact H
     clear H
     have H := H1
     clear H1
     have HC66 := Aside0.mk H
     clear H
     go_upto_region 6 with (fail)
     go_cut [60] (fun v60 wc => ∃ (kq : Nat) (x60_65 : Bool), v60 = .bool x60_65 ∧ Aside0 (levylaw1_MoneyBack.j1 kq x60_65 a0_0 a0_1 a1_0 a1_1 t786 t787 = some r) ∧ Aside0 (kq ≤ kj5) ∧ Aside0 (wc.heap[gb783]? = some (.cells #[.int .i64 a0_0, .int .i64 a0_1] 23 (0, 0))) ∧ Aside0 (wc.heap[gb784]? = some (.cells #[.int .i64 a1_0, .int .i64 a1_1] 23 (0, 0))) ∧ Aside0 (wc.heap[gb788]? = some (.cells #[.int .i64 t786, .int .i64 t787] 23 (0, 0))) ∧ Aside0 (Below w.heap.size w wc))
     case first =>
      have H := HC66.out
      clear HC66
      replace H := Option.bind_eq_some_iff.mp H
      obtain ⟨⟨t791, t792⟩, A670, H⟩ := H
      replace H : (if (!(t786 == t791) || (!(t787 == t792))) = true then (levylaw1_MoneyBack.j1 kj5 true a0_0 a0_1 a1_0 a1_1 t786 t787) else ((money_Neg.f kj5 a0_0 a0_1).bind fun bt793 => ((money_Neg.f kj5 bt793.1 bt793.2).bind fun bt795 => (if (!(bt795.1 == a0_0) || (!(bt795.2 == a0_1))) = true then (levylaw1_MoneyBack.j1 kj5 true a0_0 a0_1 a1_0 a1_1 t786 t787) else ((money_Sub.f kj5 a0_0 a0_1 a1_0 a1_1).bind fun bt797 => ((money_Neg.f kj5 a1_0 a1_1).bind fun bt799 => ((money_Add.f kj5 a0_0 a0_1 bt799.1 bt799.2).bind fun bt801 => (levylaw1_MoneyBack.j1 kj5 (!(bt797.1 == bt801.1) || (!(bt797.2 == bt801.2))) a0_0 a0_1 a1_0 a1_1 t786 t787)))))))) = some r := H
      have A67 := Aside0.mk A670
      clear A670
      by_cases c68 : (!(t786 == t791) || (!(t787 == t792))) = true
      ·rw [if_pos c68] at H
       have c68b0 : (!(t786 == t791) || (!(t787 == t792))) = true := c68
       clear c68
       (first | rw [c68b0] | (simp only [i64_w, i32_w]; rw [c68b0]) | skip)
       have H' := Aside0.mk H
       clear H
       try go_wp2
       have n0_ := Aside0.mk (blk_drew BK783.out)
       have n1_ := Aside0.mk (blk_drew BK784.out)
       have n2_ := Aside0.mk (blk_drew BK788.out)
       have n3_ := Aside0.mk (below_drew1 HB.out)
       clear BK783
       clear BK784
       clear BK788
       clear HB
       have BK783 := n0_
       have BK784 := n1_
       have BK788 := n2_
       have HB := n3_
       clear n0_ n1_ n2_ n3_
       refine start_ (n := 22) (S := fun w' => w'.cell? ⟨gb788, 0, none⟩ = some (.int .i64 t786) ∧ w'.cell? ⟨gb788, 1, none⟩ = some (.int .i64 t787) ∧ w'.cell? ⟨gb784, 0, none⟩ = some (.int .i64 a1_0) ∧ w'.cell? ⟨gb784, 1, none⟩ = some (.int .i64 a1_1) ∧ w'.cell? ⟨gb783, 0, none⟩ = some (.int .i64 a0_0) ∧ w'.cell? ⟨gb783, 1, none⟩ = some (.int .i64 a0_1)) (ds := []) #[false, false, false, false, false, false, false, false, false, false, false, false, false, false, false, false, false, false, false, false, false, false] (by kernel_rfl) rfl rfl ⟨(blk_cell BK788.out 0).trans rfl, (blk_cell BK788.out 1).trans rfl, (blk_cell BK784.out 0).trans rfl, (blk_cell BK784.out 1).trans rfl, (blk_cell BK783.out 0).trans rfl, (blk_cell BK783.out 1).trans rfl⟩ (fun hHeld => ?_); refine with_tabW levylaw1_MoneyBack.tab6 levylaw1_MoneyBack.bits6 (fun HT_ HW_ => ?_)
       generalize wc.drew = w69 at BK783 BK784 BK788 HB hHeld ⊢
       refine take_ (i := 0) (N := some 39) (v := ?_) (a' := ?_) #[true, false, false, false, false, false, false, false, false, false, false, false, false, false, false, false, false, false, false, false, false, false] rfl rfl (take_ofW HT_.out HW_.out (by kernel_rfl)) (fun _ _ _ h => h) (Or.inl ⟨by rfl, ?_⟩) hHeld ?_ ?_
       rotate_left
       ·rintro w' ⟨s0, s1, s2, s3, s4, s5⟩
        go_simp
        with_reducible rfl
       rotate_left
       ·simp only [Act.put, List.setIfInBounds_toArray, List.set_cons_zero, List.set_cons_succ, i64_w, i32_w]
        rfl
       refine take_ (i := 1) (N := some 40) (v := ?_) (a' := ?_) #[true, true, false, false, false, false, false, false, false, false, false, false, false, false, false, false, false, false, false, false, false, false] rfl rfl (take_ofW HT_.out HW_.out (by kernel_rfl)) (fun _ _ _ h => h) (Or.inl ⟨by rfl, ?_⟩) hHeld ?_ ?_
       rotate_left
       ·rintro w' ⟨s0, s1, s2, s3, s4, s5⟩
        go_simp
        with_reducible rfl
       rotate_left
       ·simp only [Act.put, List.setIfInBounds_toArray, List.set_cons_zero, List.set_cons_succ, i64_w, i32_w]
        rfl
       refine take_ (i := 2) (N := some 41) (v := ?_) (a' := ?_) #[true, true, true, false, false, false, false, false, false, false, false, false, false, false, false, false, false, false, false, false, false, false] rfl rfl (take_ofW HT_.out HW_.out (by kernel_rfl)) (fun _ _ _ h => h) (Or.inl ⟨by rfl, ?_⟩) hHeld ?_ ?_
       rotate_left
       ·rintro w' ⟨s0, s1, s2, s3, s4, s5⟩
        go_simp
        with_reducible rfl
       rotate_left
       ·simp only [Act.put, List.setIfInBounds_toArray, List.set_cons_zero, List.set_cons_succ, i64_w, i32_w]
        rfl
       refine one_ (i := 3) (N := some 42) #[true, true, true, true, false, false, false, false, false, false, false, false, false, false, false, false, false, false, false, false, false, false] rfl rfl (one_of HT_.out (by kernel_rfl)) (by decide) (fun K hK => ?_)
       refine goes_ Tryd.func23 (by kernel_rfl) rfl #[.agg #[.int .i64 a1_0, .int .i64 a1_1], .agg #[.int .i64 a0_0, .int .i64 a0_1]] (by rfl) rfl rfl agx ?_
       with_reducible refine (money_Add.calls kj5 a1_0 a1_1 a0_0 a0_1 t791 t792 _ A67.out (by first | exact HG0.out | exact Kd.C_below HG0.out blx)).mono ?_
       rintro e w70 ⟨rfl, hb⟩
       refine ⟨_, rfl, ?_⟩
       have n0_ := Aside0.mk (blk_below (g := gb783) (o := .cells #[.int .i64 a0_0, .int .i64 a0_1] 23 (0, 0)) bkx hb)
       have n1_ := Aside0.mk (blk_below (g := gb784) (o := .cells #[.int .i64 a1_0, .int .i64 a1_1] 23 (0, 0)) bkx hb)
       have n2_ := Aside0.mk (blk_below (g := gb788) (o := .cells #[.int .i64 t786, .int .i64 t787] 23 (0, 0)) bkx hb)
       have n3_ := Aside0.mk (below_step blx hb)
       clear BK783
       clear BK784
       clear BK788
       clear HB
       have BK783 := n0_
       have BK784 := n1_
       have BK788 := n2_
       have HB := n3_
       clear n0_ n1_ n2_ n3_
       (try clear hb)
       (try clear hb2)
       (try clear hk)
       (try clear hi)
       refine hK.out _ _ ⟨(blk_cell BK788.out 0).trans rfl, (blk_cell BK788.out 1).trans rfl, (blk_cell BK784.out 0).trans rfl, (blk_cell BK784.out 1).trans rfl, (blk_cell BK783.out 0).trans rfl, (blk_cell BK783.out 1).trans rfl⟩ (fun hHeld => ?_)
       clear hK K
       refine norm_ (a' := ?_) ?_ ?_
       rotate_left
       ·show Act.put _ (some 42) _ = _
        simp only [Act.put, List.setIfInBounds_toArray, List.set_cons_zero, List.set_cons_succ, i64_w, i32_w]
        rfl
       refine pure_ (i := 4) (N := some 43) (v := ?_) (a' := ?_) #[true, true, true, true, true, false, false, false, false, false, false, false, false, false, false, false, false, false, false, false, false, false] rfl rfl (any_of HT_.out (by kernel_rfl)) (fun _ _ _ h => h) (Or.inl ⟨by rfl, ?_⟩) ?_ ?_
       rotate_left
       ·intro w'
        go_simp
        with_reducible rfl
       rotate_left
       ·simp only [Act.put, List.setIfInBounds_toArray, List.set_cons_zero, List.set_cons_succ, i64_w, i32_w]
        rfl
       refine pure_ (i := 5) (N := some 44) (v := ?_) (a' := ?_) #[true, true, true, true, true, true, false, false, false, false, false, false, false, false, false, false, false, false, false, false, false, false] rfl rfl (any_of HT_.out (by kernel_rfl)) (fun _ _ _ h => h) (Or.inl ⟨by rfl, ?_⟩) ?_ ?_
       rotate_left
       ·intro w'
        go_simp
        with_reducible rfl
       rotate_left
       ·simp only [Act.put, List.setIfInBounds_toArray, List.set_cons_zero, List.set_cons_succ, i64_w, i32_w]
        rfl
       refine pure_ (i := 6) (N := some 45) (v := undef) (a' := ?_) #[true, true, true, true, true, true, true, false, false, false, false, false, false, false, false, false, false, false, false, false, false, false] rfl rfl (any_of HT_.out (by kernel_rfl)) (fun _ _ _ h => h) (Or.inr ⟨by rfl, rfl⟩) ?_ ?_
       rotate_left
       ·simp only [Act.put, List.setIfInBounds_toArray, List.set_cons_zero, List.set_cons_succ, i64_w, i32_w]
        rfl
       refine pure_ (i := 7) (N := some 46) (v := undef) (a' := ?_) #[true, true, true, true, true, true, true, true, false, false, false, false, false, false, false, false, false, false, false, false, false, false] rfl rfl (any_of HT_.out (by kernel_rfl)) (fun _ _ _ h => h) (Or.inr ⟨by rfl, rfl⟩) ?_ ?_
       rotate_left
       ·simp only [Act.put, List.setIfInBounds_toArray, List.set_cons_zero, List.set_cons_succ, i64_w, i32_w]
        rfl
       refine pure_ (i := 8) (N := some 47) (v := undef) (a' := ?_) #[true, true, true, true, true, true, true, true, true, false, false, false, false, false, false, false, false, false, false, false, false, false] rfl rfl (any_of HT_.out (by kernel_rfl)) (fun _ _ _ h => h) (Or.inr ⟨by rfl, rfl⟩) ?_ ?_
       rotate_left
       ·simp only [Act.put, List.setIfInBounds_toArray, List.set_cons_zero, List.set_cons_succ, i64_w, i32_w]
        rfl
       refine pure_ (i := 9) (N := some 48) (v := undef) (a' := ?_) #[true, true, true, true, true, true, true, true, true, true, false, false, false, false, false, false, false, false, false, false, false, false] rfl rfl (any_of HT_.out (by kernel_rfl)) (fun _ _ _ h => h) (Or.inr ⟨by rfl, rfl⟩) ?_ ?_
       rotate_left
       ·simp only [Act.put, List.setIfInBounds_toArray, List.set_cons_zero, List.set_cons_succ, i64_w, i32_w]
        rfl
       refine pure_ (i := 10) (N := some 49) (v := undef) (a' := ?_) #[true, true, true, true, true, true, true, true, true, true, true, false, false, false, false, false, false, false, false, false, false, false] rfl rfl (any_of HT_.out (by kernel_rfl)) (fun _ _ _ h => h) (Or.inr ⟨by rfl, rfl⟩) ?_ ?_
       rotate_left
       ·simp only [Act.put, List.setIfInBounds_toArray, List.set_cons_zero, List.set_cons_succ, i64_w, i32_w]
        rfl
       refine pure_ (i := 11) (N := some 50) (v := ?_) (a' := ?_) #[true, true, true, true, true, true, true, true, true, true, true, true, false, false, false, false, false, false, false, false, false, false] rfl rfl (any_of HT_.out (by kernel_rfl)) (fun _ _ _ h => h) (Or.inl ⟨by rfl, ?_⟩) ?_ ?_
       rotate_left
       ·intro w'
        go_simp
        with_reducible rfl
       rotate_left
       ·simp only [Act.put, List.setIfInBounds_toArray, List.set_cons_zero, List.set_cons_succ, i64_w, i32_w]
        rfl
       refine pure_ (i := 12) (N := some 51) (v := ?_) (a' := ?_) #[true, true, true, true, true, true, true, true, true, true, true, true, true, false, false, false, false, false, false, false, false, false] rfl rfl (any_of HT_.out (by kernel_rfl)) (fun _ _ _ h => h) (Or.inl ⟨by rfl, ?_⟩) ?_ ?_
       rotate_left
       ·intro w'
        go_simp
        with_reducible rfl
       rotate_left
       ·simp only [Act.put, List.setIfInBounds_toArray, List.set_cons_zero, List.set_cons_succ, i64_w, i32_w]
        rfl
       refine pure_ (i := 13) (N := some 52) (v := undef) (a' := ?_) #[true, true, true, true, true, true, true, true, true, true, true, true, true, true, false, false, false, false, false, false, false, false] rfl rfl (any_of HT_.out (by kernel_rfl)) (fun _ _ _ h => h) (Or.inr ⟨by rfl, rfl⟩) ?_ ?_
       rotate_left
       ·simp only [Act.put, List.setIfInBounds_toArray, List.set_cons_zero, List.set_cons_succ, i64_w, i32_w]
        rfl
       refine pure_ (i := 14) (N := some 53) (v := undef) (a' := ?_) #[true, true, true, true, true, true, true, true, true, true, true, true, true, true, true, false, false, false, false, false, false, false] rfl rfl (any_of HT_.out (by kernel_rfl)) (fun _ _ _ h => h) (Or.inr ⟨by rfl, rfl⟩) ?_ ?_
       rotate_left
       ·simp only [Act.put, List.setIfInBounds_toArray, List.set_cons_zero, List.set_cons_succ, i64_w, i32_w]
        rfl
       refine pure_ (i := 15) (N := some 54) (v := undef) (a' := ?_) #[true, true, true, true, true, true, true, true, true, true, true, true, true, true, true, true, false, false, false, false, false, false] rfl rfl (any_of HT_.out (by kernel_rfl)) (fun _ _ _ h => h) (Or.inr ⟨by rfl, rfl⟩) ?_ ?_
       rotate_left
       ·simp only [Act.put, List.setIfInBounds_toArray, List.set_cons_zero, List.set_cons_succ, i64_w, i32_w]
        rfl
       refine pure_ (i := 16) (N := some 55) (v := undef) (a' := ?_) #[true, true, true, true, true, true, true, true, true, true, true, true, true, true, true, true, true, false, false, false, false, false] rfl rfl (any_of HT_.out (by kernel_rfl)) (fun _ _ _ h => h) (Or.inr ⟨by rfl, rfl⟩) ?_ ?_
       rotate_left
       ·simp only [Act.put, List.setIfInBounds_toArray, List.set_cons_zero, List.set_cons_succ, i64_w, i32_w]
        rfl
       refine pure_ (i := 17) (N := some 56) (v := undef) (a' := ?_) #[true, true, true, true, true, true, true, true, true, true, true, true, true, true, true, true, true, true, false, false, false, false] rfl rfl (any_of HT_.out (by kernel_rfl)) (fun _ _ _ h => h) (Or.inr ⟨by rfl, rfl⟩) ?_ ?_
       rotate_left
       ·simp only [Act.put, List.setIfInBounds_toArray, List.set_cons_zero, List.set_cons_succ, i64_w, i32_w]
        rfl
       refine pure_ (i := 18) (N := some 57) (v := undef) (a' := ?_) #[true, true, true, true, true, true, true, true, true, true, true, true, true, true, true, true, true, true, true, false, false, false] rfl rfl (any_of HT_.out (by kernel_rfl)) (fun _ _ _ h => h) (Or.inr ⟨by rfl, rfl⟩) ?_ ?_
       rotate_left
       ·simp only [Act.put, List.setIfInBounds_toArray, List.set_cons_zero, List.set_cons_succ, i64_w, i32_w]
        rfl
       refine pure_ (i := 19) (N := some 58) (v := undef) (a' := ?_) #[true, true, true, true, true, true, true, true, true, true, true, true, true, true, true, true, true, true, true, true, false, false] rfl rfl (any_of HT_.out (by kernel_rfl)) (fun _ _ _ h => h) (Or.inr ⟨by rfl, rfl⟩) ?_ ?_
       rotate_left
       ·simp only [Act.put, List.setIfInBounds_toArray, List.set_cons_zero, List.set_cons_succ, i64_w, i32_w]
        rfl
       refine pure_ (i := 20) (N := some 59) (v := undef) (a' := ?_) #[true, true, true, true, true, true, true, true, true, true, true, true, true, true, true, true, true, true, true, true, true, false] rfl rfl (any_of HT_.out (by kernel_rfl)) (fun _ _ _ h => h) (Or.inr ⟨by rfl, rfl⟩) ?_ ?_
       rotate_left
       ·simp only [Act.put, List.setIfInBounds_toArray, List.set_cons_zero, List.set_cons_succ, i64_w, i32_w]
        rfl
       refine pure_ (i := 21) (N := some 60) (v := ?_) (a' := ?_) #[true, true, true, true, true, true, true, true, true, true, true, true, true, true, true, true, true, true, true, true, true, true] rfl rfl (any_of HT_.out (by kernel_rfl)) (fun _ _ _ h => h) (Or.inl ⟨by rfl, ?_⟩) ?_ ?_
       rotate_left
       ·intro w'
        go_simp
        with_reducible rfl
       rotate_left
       ·simp only [Act.put, List.setIfInBounds_toArray, List.set_cons_zero, List.set_cons_succ, i64_w, i32_w]
        rfl
       refine done_ (done_of HT_.out (by kernel_rfl)) ?_
       try go_wp2
       go_meet
       case rel => exact ⟨_, (true), (by first | rfl | (simp; done) | (simp [*]; done)), H', ⟨by have := HJ5.out; first | omega | exact Nat.le_refl _⟩, ⟨bkx⟩, ⟨bkx⟩, ⟨bkx⟩, ⟨blx⟩⟩
      ·rw [if_neg c68] at H
       have c68b0 : (!(t786 == t791) || (!(t787 == t792))) = false := by simpa using c68
       clear c68
       (first | rw [c68b0] | (simp only [i64_w, i32_w]; rw [c68b0]) | skip)
       replace H := Option.bind_eq_some_iff.mp H
       obtain ⟨⟨t793, t794⟩, A710, H⟩ := H
       replace H : ((money_Neg.f kj5 t793 t794).bind fun bt795 => (if (!(bt795.1 == a0_0) || (!(bt795.2 == a0_1))) = true then (levylaw1_MoneyBack.j1 kj5 true a0_0 a0_1 a1_0 a1_1 t786 t787) else ((money_Sub.f kj5 a0_0 a0_1 a1_0 a1_1).bind fun bt797 => ((money_Neg.f kj5 a1_0 a1_1).bind fun bt799 => ((money_Add.f kj5 a0_0 a0_1 bt799.1 bt799.2).bind fun bt801 => (levylaw1_MoneyBack.j1 kj5 (!(bt797.1 == bt801.1) || (!(bt797.2 == bt801.2))) a0_0 a0_1 a1_0 a1_1 t786 t787)))))) = some r := H
       have A71 := Aside0.mk A710
       clear A710
       replace H := Option.bind_eq_some_iff.mp H
       obtain ⟨⟨t795, t796⟩, A720, H⟩ := H
       replace H : (if (!(t795 == a0_0) || (!(t796 == a0_1))) = true then (levylaw1_MoneyBack.j1 kj5 true a0_0 a0_1 a1_0 a1_1 t786 t787) else ((money_Sub.f kj5 a0_0 a0_1 a1_0 a1_1).bind fun bt797 => ((money_Neg.f kj5 a1_0 a1_1).bind fun bt799 => ((money_Add.f kj5 a0_0 a0_1 bt799.1 bt799.2).bind fun bt801 => (levylaw1_MoneyBack.j1 kj5 (!(bt797.1 == bt801.1) || (!(bt797.2 == bt801.2))) a0_0 a0_1 a1_0 a1_1 t786 t787))))) = some r := H
       have A72 := Aside0.mk A720
       clear A720
       by_cases c73 : (!(t795 == a0_0) || (!(t796 == a0_1))) = true
       ·rw [if_pos c73] at H
        have c73b0 : (!(t795 == a0_0) || (!(t796 == a0_1))) = true := c73
        clear c73
        have H' := Aside0.mk H
        clear H
        try go_wp2
        have n0_ := Aside0.mk (blk_drew BK783.out)
        have n1_ := Aside0.mk (blk_drew BK784.out)
        have n2_ := Aside0.mk (blk_drew BK788.out)
        have n3_ := Aside0.mk (below_drew1 HB.out)
        clear BK783
        clear BK784
        clear BK788
        clear HB
        have BK783 := n0_
        have BK784 := n1_
        have BK788 := n2_
        have HB := n3_
        clear n0_ n1_ n2_ n3_
        refine start_ (n := 22) (S := fun w' => w'.cell? ⟨gb788, 0, none⟩ = some (.int .i64 t786) ∧ w'.cell? ⟨gb788, 1, none⟩ = some (.int .i64 t787) ∧ w'.cell? ⟨gb784, 0, none⟩ = some (.int .i64 a1_0) ∧ w'.cell? ⟨gb784, 1, none⟩ = some (.int .i64 a1_1) ∧ w'.cell? ⟨gb783, 0, none⟩ = some (.int .i64 a0_0) ∧ w'.cell? ⟨gb783, 1, none⟩ = some (.int .i64 a0_1)) (ds := []) #[false, false, false, false, false, false, false, false, false, false, false, false, false, false, false, false, false, false, false, false, false, false] (by kernel_rfl) rfl rfl ⟨(blk_cell BK788.out 0).trans rfl, (blk_cell BK788.out 1).trans rfl, (blk_cell BK784.out 0).trans rfl, (blk_cell BK784.out 1).trans rfl, (blk_cell BK783.out 0).trans rfl, (blk_cell BK783.out 1).trans rfl⟩ (fun hHeld => ?_); refine with_tabW levylaw1_MoneyBack.tab6 levylaw1_MoneyBack.bits6 (fun HT_ HW_ => ?_)
        generalize wc.drew = w74 at BK783 BK784 BK788 HB hHeld ⊢
        refine take_ (i := 0) (N := some 39) (v := ?_) (a' := ?_) #[true, false, false, false, false, false, false, false, false, false, false, false, false, false, false, false, false, false, false, false, false, false] rfl rfl (take_ofW HT_.out HW_.out (by kernel_rfl)) (fun _ _ _ h => h) (Or.inl ⟨by rfl, ?_⟩) hHeld ?_ ?_
        rotate_left
        ·rintro w' ⟨s0, s1, s2, s3, s4, s5⟩
         go_simp
         with_reducible rfl
        rotate_left
        ·simp only [Act.put, List.setIfInBounds_toArray, List.set_cons_zero, List.set_cons_succ, i64_w, i32_w]
         rfl
        refine take_ (i := 1) (N := some 40) (v := ?_) (a' := ?_) #[true, true, false, false, false, false, false, false, false, false, false, false, false, false, false, false, false, false, false, false, false, false] rfl rfl (take_ofW HT_.out HW_.out (by kernel_rfl)) (fun _ _ _ h => h) (Or.inl ⟨by rfl, ?_⟩) hHeld ?_ ?_
        rotate_left
        ·rintro w' ⟨s0, s1, s2, s3, s4, s5⟩
         go_simp
         with_reducible rfl
        rotate_left
        ·simp only [Act.put, List.setIfInBounds_toArray, List.set_cons_zero, List.set_cons_succ, i64_w, i32_w]
         rfl
        refine take_ (i := 2) (N := some 41) (v := ?_) (a' := ?_) #[true, true, true, false, false, false, false, false, false, false, false, false, false, false, false, false, false, false, false, false, false, false] rfl rfl (take_ofW HT_.out HW_.out (by kernel_rfl)) (fun _ _ _ h => h) (Or.inl ⟨by rfl, ?_⟩) hHeld ?_ ?_
        rotate_left
        ·rintro w' ⟨s0, s1, s2, s3, s4, s5⟩
         go_simp
         with_reducible rfl
        rotate_left
        ·simp only [Act.put, List.setIfInBounds_toArray, List.set_cons_zero, List.set_cons_succ, i64_w, i32_w]
         rfl
        refine one_ (i := 3) (N := some 42) #[true, true, true, true, false, false, false, false, false, false, false, false, false, false, false, false, false, false, false, false, false, false] rfl rfl (one_of HT_.out (by kernel_rfl)) (by decide) (fun K hK => ?_)
        refine goes_ Tryd.func23 (by kernel_rfl) rfl #[.agg #[.int .i64 a1_0, .int .i64 a1_1], .agg #[.int .i64 a0_0, .int .i64 a0_1]] (by rfl) rfl rfl agx ?_
        with_reducible refine (money_Add.calls kj5 a1_0 a1_1 a0_0 a0_1 t791 t792 _ A67.out (by first | exact HG0.out | exact Kd.C_below HG0.out blx)).mono ?_
        rintro e w75 ⟨rfl, hb⟩
        refine ⟨_, rfl, ?_⟩
        have n0_ := Aside0.mk (blk_below (g := gb783) (o := .cells #[.int .i64 a0_0, .int .i64 a0_1] 23 (0, 0)) bkx hb)
        have n1_ := Aside0.mk (blk_below (g := gb784) (o := .cells #[.int .i64 a1_0, .int .i64 a1_1] 23 (0, 0)) bkx hb)
        have n2_ := Aside0.mk (blk_below (g := gb788) (o := .cells #[.int .i64 t786, .int .i64 t787] 23 (0, 0)) bkx hb)
        have n3_ := Aside0.mk (below_step blx hb)
        clear BK783
        clear BK784
        clear BK788
        clear HB
        have BK783 := n0_
        have BK784 := n1_
        have BK788 := n2_
        have HB := n3_
        clear n0_ n1_ n2_ n3_
        (try clear hb)
        (try clear hb2)
        (try clear hk)
        (try clear hi)
        refine hK.out _ _ ⟨(blk_cell BK788.out 0).trans rfl, (blk_cell BK788.out 1).trans rfl, (blk_cell BK784.out 0).trans rfl, (blk_cell BK784.out 1).trans rfl, (blk_cell BK783.out 0).trans rfl, (blk_cell BK783.out 1).trans rfl⟩ (fun hHeld => ?_)
        clear hK K
        refine norm_ (a' := ?_) ?_ ?_
        rotate_left
        ·show Act.put _ (some 42) _ = _
         simp only [Act.put, List.setIfInBounds_toArray, List.set_cons_zero, List.set_cons_succ, i64_w, i32_w]
         rfl
        refine pure_ (i := 4) (N := some 43) (v := ?_) (a' := ?_) #[true, true, true, true, true, false, false, false, false, false, false, false, false, false, false, false, false, false, false, false, false, false] rfl rfl (any_of HT_.out (by kernel_rfl)) (fun _ _ _ h => h) (Or.inl ⟨by rfl, ?_⟩) ?_ ?_
        rotate_left
        ·intro w'
         go_simp
         with_reducible rfl
        rotate_left
        ·simp only [Act.put, List.setIfInBounds_toArray, List.set_cons_zero, List.set_cons_succ, i64_w, i32_w]
         rfl
        refine pure_ (i := 5) (N := some 44) (v := ?_) (a' := ?_) #[true, true, true, true, true, true, false, false, false, false, false, false, false, false, false, false, false, false, false, false, false, false] rfl rfl (any_of HT_.out (by kernel_rfl)) (fun _ _ _ h => h) (Or.inl ⟨by rfl, ?_⟩) ?_ ?_
        rotate_left
        ·intro w'
         go_simp
         with_reducible rfl
        rotate_left
        ·simp only [Act.put, List.setIfInBounds_toArray, List.set_cons_zero, List.set_cons_succ, i64_w, i32_w]
         rfl
        refine take_ (i := 6) (N := some 45) (v := ?_) (a' := ?_) #[true, true, true, true, true, true, true, false, false, false, false, false, false, false, false, false, false, false, false, false, false, false] rfl rfl (take_ofW HT_.out HW_.out (by kernel_rfl)) (fun _ _ _ h => h) (Or.inl ⟨by rfl, ?_⟩) hHeld ?_ ?_
        rotate_left
        ·rintro w' ⟨s0, s1, s2, s3, s4, s5⟩
         go_simp
         with_reducible rfl
        rotate_left
        ·simp only [Act.put, List.setIfInBounds_toArray, List.set_cons_zero, List.set_cons_succ, i64_w, i32_w]
         rfl
        refine take_ (i := 9) (N := some 48) (v := ?_) (a' := ?_) #[true, true, true, true, true, true, true, false, false, true, false, false, false, false, false, false, false, false, false, false, false, false] rfl rfl (take_ofW HT_.out HW_.out (by kernel_rfl)) (fun _ _ _ h => h) (Or.inl ⟨by rfl, ?_⟩) hHeld ?_ ?_
        rotate_left
        ·rintro w' ⟨s0, s1, s2, s3, s4, s5⟩
         go_simp
         with_reducible rfl
        rotate_left
        ·simp only [Act.put, List.setIfInBounds_toArray, List.set_cons_zero, List.set_cons_succ, i64_w, i32_w]
         rfl
        refine one_ (i := 7) (N := some 46) #[true, true, true, true, true, true, true, true, false, true, false, false, false, false, false, false, false, false, false, false, false, false] rfl rfl (one_of HT_.out (by kernel_rfl)) (by decide) (fun K hK => ?_)
        refine goes_ Tryd.func27 (by kernel_rfl) rfl #[.agg #[.int .i64 a0_0, .int .i64 a0_1]] (by rfl) rfl rfl agx ?_
        with_reducible refine (money_Neg.calls kj5 a0_0 a0_1 t793 t794 _ A71.out (by first | exact HG0.out | exact Kd.C_below HG0.out blx)).mono ?_
        rintro e w76 ⟨rfl, hb⟩
        refine ⟨_, rfl, ?_⟩
        have n0_ := Aside0.mk (blk_below (g := gb783) (o := .cells #[.int .i64 a0_0, .int .i64 a0_1] 23 (0, 0)) bkx hb)
        have n1_ := Aside0.mk (blk_below (g := gb784) (o := .cells #[.int .i64 a1_0, .int .i64 a1_1] 23 (0, 0)) bkx hb)
        have n2_ := Aside0.mk (blk_below (g := gb788) (o := .cells #[.int .i64 t786, .int .i64 t787] 23 (0, 0)) bkx hb)
        have n3_ := Aside0.mk (below_step blx hb)
        clear BK783
        clear BK784
        clear BK788
        clear HB
        have BK783 := n0_
        have BK784 := n1_
        have BK788 := n2_
        have HB := n3_
        clear n0_ n1_ n2_ n3_
        (try clear hb)
        (try clear hb2)
        (try clear hk)
        (try clear hi)
        refine hK.out _ _ ⟨(blk_cell BK788.out 0).trans rfl, (blk_cell BK788.out 1).trans rfl, (blk_cell BK784.out 0).trans rfl, (blk_cell BK784.out 1).trans rfl, (blk_cell BK783.out 0).trans rfl, (blk_cell BK783.out 1).trans rfl⟩ (fun hHeld => ?_)
        clear hK K
        refine norm_ (a' := ?_) ?_ ?_
        rotate_left
        ·show Act.put _ (some 46) _ = _
         simp only [Act.put, List.setIfInBounds_toArray, List.set_cons_zero, List.set_cons_succ, i64_w, i32_w]
         rfl
        refine one_ (i := 8) (N := some 47) #[true, true, true, true, true, true, true, true, true, true, false, false, false, false, false, false, false, false, false, false, false, false] rfl rfl (one_of HT_.out (by kernel_rfl)) (by decide) (fun K hK => ?_)
        refine goes_ Tryd.func27 (by kernel_rfl) rfl #[.agg #[.int .i64 t793, .int .i64 t794]] (by rfl) rfl rfl agx ?_
        with_reducible refine (money_Neg.calls kj5 t793 t794 t795 t796 _ A72.out (by first | exact HG0.out | exact Kd.C_below HG0.out blx)).mono ?_
        rintro e w77 ⟨rfl, hb⟩
        refine ⟨_, rfl, ?_⟩
        have n0_ := Aside0.mk (blk_below (g := gb783) (o := .cells #[.int .i64 a0_0, .int .i64 a0_1] 23 (0, 0)) bkx hb)
        have n1_ := Aside0.mk (blk_below (g := gb784) (o := .cells #[.int .i64 a1_0, .int .i64 a1_1] 23 (0, 0)) bkx hb)
        have n2_ := Aside0.mk (blk_below (g := gb788) (o := .cells #[.int .i64 t786, .int .i64 t787] 23 (0, 0)) bkx hb)
        have n3_ := Aside0.mk (below_step blx hb)
        clear BK783
        clear BK784
        clear BK788
        clear HB
        have BK783 := n0_
        have BK784 := n1_
        have BK788 := n2_
        have HB := n3_
        clear n0_ n1_ n2_ n3_
        (try clear hb)
        (try clear hb2)
        (try clear hk)
        (try clear hi)
        refine hK.out _ _ ⟨(blk_cell BK788.out 0).trans rfl, (blk_cell BK788.out 1).trans rfl, (blk_cell BK784.out 0).trans rfl, (blk_cell BK784.out 1).trans rfl, (blk_cell BK783.out 0).trans rfl, (blk_cell BK783.out 1).trans rfl⟩ (fun hHeld => ?_)
        clear hK K
        refine norm_ (a' := ?_) ?_ ?_
        rotate_left
        ·show Act.put _ (some 47) _ = _
         simp only [Act.put, List.setIfInBounds_toArray, List.set_cons_zero, List.set_cons_succ, i64_w, i32_w]
         rfl
        refine pure_ (i := 10) (N := some 49) (v := ?_) (a' := ?_) #[true, true, true, true, true, true, true, true, true, true, true, false, false, false, false, false, false, false, false, false, false, false] rfl rfl (any_of HT_.out (by kernel_rfl)) (fun _ _ _ h => h) (Or.inl ⟨by rfl, ?_⟩) ?_ ?_
        rotate_left
        ·intro w'
         go_simp
         with_reducible rfl
        rotate_left
        ·simp only [Act.put, List.setIfInBounds_toArray, List.set_cons_zero, List.set_cons_succ, i64_w, i32_w]
         rfl
        refine pure_ (i := 11) (N := some 50) (v := ?_) (a' := ?_) #[true, true, true, true, true, true, true, true, true, true, true, true, false, false, false, false, false, false, false, false, false, false] rfl rfl (any_of HT_.out (by kernel_rfl)) (fun _ _ _ h => h) (Or.inl ⟨by rfl, ?_⟩) ?_ ?_
        rotate_left
        ·intro w'
         go_simp
         with_reducible rfl
        rotate_left
        ·simp only [Act.put, List.setIfInBounds_toArray, List.set_cons_zero, List.set_cons_succ, i64_w, i32_w]
         rfl
        refine pure_ (i := 12) (N := some 51) (v := ?_) (a' := ?_) #[true, true, true, true, true, true, true, true, true, true, true, true, true, false, false, false, false, false, false, false, false, false] rfl rfl (any_of HT_.out (by kernel_rfl)) (fun _ _ _ h => h) (Or.inl ⟨by rfl, ?_⟩) ?_ ?_
        rotate_left
        ·intro w'
         go_simp
         with_reducible rfl
        rotate_left
        ·simp only [Act.put, List.setIfInBounds_toArray, List.set_cons_zero, List.set_cons_succ, i64_w, i32_w]
         rfl
        refine pure_ (i := 13) (N := some 52) (v := undef) (a' := ?_) #[true, true, true, true, true, true, true, true, true, true, true, true, true, true, false, false, false, false, false, false, false, false] rfl rfl (any_of HT_.out (by kernel_rfl)) (fun _ _ _ h => h) (Or.inr ⟨by rfl, rfl⟩) ?_ ?_
        rotate_left
        ·simp only [Act.put, List.setIfInBounds_toArray, List.set_cons_zero, List.set_cons_succ, i64_w, i32_w]
         rfl
        refine pure_ (i := 14) (N := some 53) (v := undef) (a' := ?_) #[true, true, true, true, true, true, true, true, true, true, true, true, true, true, true, false, false, false, false, false, false, false] rfl rfl (any_of HT_.out (by kernel_rfl)) (fun _ _ _ h => h) (Or.inr ⟨by rfl, rfl⟩) ?_ ?_
        rotate_left
        ·simp only [Act.put, List.setIfInBounds_toArray, List.set_cons_zero, List.set_cons_succ, i64_w, i32_w]
         rfl
        refine pure_ (i := 15) (N := some 54) (v := undef) (a' := ?_) #[true, true, true, true, true, true, true, true, true, true, true, true, true, true, true, true, false, false, false, false, false, false] rfl rfl (any_of HT_.out (by kernel_rfl)) (fun _ _ _ h => h) (Or.inr ⟨by rfl, rfl⟩) ?_ ?_
        rotate_left
        ·simp only [Act.put, List.setIfInBounds_toArray, List.set_cons_zero, List.set_cons_succ, i64_w, i32_w]
         rfl
        refine pure_ (i := 16) (N := some 55) (v := undef) (a' := ?_) #[true, true, true, true, true, true, true, true, true, true, true, true, true, true, true, true, true, false, false, false, false, false] rfl rfl (any_of HT_.out (by kernel_rfl)) (fun _ _ _ h => h) (Or.inr ⟨by rfl, rfl⟩) ?_ ?_
        rotate_left
        ·simp only [Act.put, List.setIfInBounds_toArray, List.set_cons_zero, List.set_cons_succ, i64_w, i32_w]
         rfl
        refine pure_ (i := 17) (N := some 56) (v := undef) (a' := ?_) #[true, true, true, true, true, true, true, true, true, true, true, true, true, true, true, true, true, true, false, false, false, false] rfl rfl (any_of HT_.out (by kernel_rfl)) (fun _ _ _ h => h) (Or.inr ⟨by rfl, rfl⟩) ?_ ?_
        rotate_left
        ·simp only [Act.put, List.setIfInBounds_toArray, List.set_cons_zero, List.set_cons_succ, i64_w, i32_w]
         rfl
        refine pure_ (i := 18) (N := some 57) (v := undef) (a' := ?_) #[true, true, true, true, true, true, true, true, true, true, true, true, true, true, true, true, true, true, true, false, false, false] rfl rfl (any_of HT_.out (by kernel_rfl)) (fun _ _ _ h => h) (Or.inr ⟨by rfl, rfl⟩) ?_ ?_
        rotate_left
        ·simp only [Act.put, List.setIfInBounds_toArray, List.set_cons_zero, List.set_cons_succ, i64_w, i32_w]
         rfl
        refine pure_ (i := 19) (N := some 58) (v := undef) (a' := ?_) #[true, true, true, true, true, true, true, true, true, true, true, true, true, true, true, true, true, true, true, true, false, false] rfl rfl (any_of HT_.out (by kernel_rfl)) (fun _ _ _ h => h) (Or.inr ⟨by rfl, rfl⟩) ?_ ?_
        rotate_left
        ·simp only [Act.put, List.setIfInBounds_toArray, List.set_cons_zero, List.set_cons_succ, i64_w, i32_w]
         rfl
        refine pure_ (i := 20) (N := some 59) (v := undef) (a' := ?_) #[true, true, true, true, true, true, true, true, true, true, true, true, true, true, true, true, true, true, true, true, true, false] rfl rfl (any_of HT_.out (by kernel_rfl)) (fun _ _ _ h => h) (Or.inr ⟨by rfl, rfl⟩) ?_ ?_
        rotate_left
        ·simp only [Act.put, List.setIfInBounds_toArray, List.set_cons_zero, List.set_cons_succ, i64_w, i32_w]
         rfl
        refine pure_ (i := 21) (N := some 60) (v := ?_) (a' := ?_) #[true, true, true, true, true, true, true, true, true, true, true, true, true, true, true, true, true, true, true, true, true, true] rfl rfl (any_of HT_.out (by kernel_rfl)) (fun _ _ _ h => h) (Or.inl ⟨by rfl, ?_⟩) ?_ ?_
        rotate_left
        ·intro w'
         go_simp
         with_reducible rfl
        rotate_left
        ·simp only [Act.put, List.setIfInBounds_toArray, List.set_cons_zero, List.set_cons_succ, i64_w, i32_w]
         rfl
        refine done_ (done_of HT_.out (by kernel_rfl)) ?_
        try go_wp2
        go_meet
        case rel => exact ⟨_, (true), (by first | rfl | (simp; done) | (simp [*]; done)), H', ⟨by have := HJ5.out; first | omega | exact Nat.le_refl _⟩, ⟨bkx⟩, ⟨bkx⟩, ⟨bkx⟩, ⟨blx⟩⟩
       ·rw [if_neg c73] at H
        have c73b0 : (!(t795 == a0_0) || (!(t796 == a0_1))) = false := by simpa using c73
        clear c73
        replace H := Option.bind_eq_some_iff.mp H
        obtain ⟨⟨t797, t798⟩, A780, H⟩ := H
        replace H : ((money_Neg.f kj5 a1_0 a1_1).bind fun bt799 => ((money_Add.f kj5 a0_0 a0_1 bt799.1 bt799.2).bind fun bt801 => (levylaw1_MoneyBack.j1 kj5 (!(t797 == bt801.1) || (!(t798 == bt801.2))) a0_0 a0_1 a1_0 a1_1 t786 t787))) = some r := H
        have A78 := Aside0.mk A780
        clear A780
        replace H := Option.bind_eq_some_iff.mp H
        obtain ⟨⟨t799, t800⟩, A790, H⟩ := H
        replace H : ((money_Add.f kj5 a0_0 a0_1 t799 t800).bind fun bt801 => (levylaw1_MoneyBack.j1 kj5 (!(t797 == bt801.1) || (!(t798 == bt801.2))) a0_0 a0_1 a1_0 a1_1 t786 t787)) = some r := H
        have A79 := Aside0.mk A790
        clear A790
        replace H := Option.bind_eq_some_iff.mp H
        obtain ⟨⟨t801, t802⟩, A800, H⟩ := H
        replace H : (levylaw1_MoneyBack.j1 kj5 (!(t797 == t801) || (!(t798 == t802))) a0_0 a0_1 a1_0 a1_1 t786 t787) = some r := H
        have A80 := Aside0.mk A800
        clear A800
        have H' := Aside0.mk H
        clear H
        try go_wp2
        have n0_ := Aside0.mk (blk_drew BK783.out)
        have n1_ := Aside0.mk (blk_drew BK784.out)
        have n2_ := Aside0.mk (blk_drew BK788.out)
        have n3_ := Aside0.mk (below_drew1 HB.out)
        clear BK783
        clear BK784
        clear BK788
        clear HB
        have BK783 := n0_
        have BK784 := n1_
        have BK788 := n2_
        have HB := n3_
        clear n0_ n1_ n2_ n3_
        refine start_ (n := 22) (S := fun w' => w'.cell? ⟨gb788, 0, none⟩ = some (.int .i64 t786) ∧ w'.cell? ⟨gb788, 1, none⟩ = some (.int .i64 t787) ∧ w'.cell? ⟨gb784, 0, none⟩ = some (.int .i64 a1_0) ∧ w'.cell? ⟨gb784, 1, none⟩ = some (.int .i64 a1_1) ∧ w'.cell? ⟨gb783, 0, none⟩ = some (.int .i64 a0_0) ∧ w'.cell? ⟨gb783, 1, none⟩ = some (.int .i64 a0_1)) (ds := []) #[false, false, false, false, false, false, false, false, false, false, false, false, false, false, false, false, false, false, false, false, false, false] (by kernel_rfl) rfl rfl ⟨(blk_cell BK788.out 0).trans rfl, (blk_cell BK788.out 1).trans rfl, (blk_cell BK784.out 0).trans rfl, (blk_cell BK784.out 1).trans rfl, (blk_cell BK783.out 0).trans rfl, (blk_cell BK783.out 1).trans rfl⟩ (fun hHeld => ?_); refine with_tabW levylaw1_MoneyBack.tab6 levylaw1_MoneyBack.bits6 (fun HT_ HW_ => ?_)
        generalize wc.drew = w81 at BK783 BK784 BK788 HB hHeld ⊢
        refine take_ (i := 0) (N := some 39) (v := ?_) (a' := ?_) #[true, false, false, false, false, false, false, false, false, false, false, false, false, false, false, false, false, false, false, false, false, false] rfl rfl (take_ofW HT_.out HW_.out (by kernel_rfl)) (fun _ _ _ h => h) (Or.inl ⟨by rfl, ?_⟩) hHeld ?_ ?_
        rotate_left
        ·rintro w' ⟨s0, s1, s2, s3, s4, s5⟩
         go_simp
         with_reducible rfl
        rotate_left
        ·simp only [Act.put, List.setIfInBounds_toArray, List.set_cons_zero, List.set_cons_succ, i64_w, i32_w]
         rfl
        refine take_ (i := 1) (N := some 40) (v := ?_) (a' := ?_) #[true, true, false, false, false, false, false, false, false, false, false, false, false, false, false, false, false, false, false, false, false, false] rfl rfl (take_ofW HT_.out HW_.out (by kernel_rfl)) (fun _ _ _ h => h) (Or.inl ⟨by rfl, ?_⟩) hHeld ?_ ?_
        rotate_left
        ·rintro w' ⟨s0, s1, s2, s3, s4, s5⟩
         go_simp
         with_reducible rfl
        rotate_left
        ·simp only [Act.put, List.setIfInBounds_toArray, List.set_cons_zero, List.set_cons_succ, i64_w, i32_w]
         rfl
        refine take_ (i := 2) (N := some 41) (v := ?_) (a' := ?_) #[true, true, true, false, false, false, false, false, false, false, false, false, false, false, false, false, false, false, false, false, false, false] rfl rfl (take_ofW HT_.out HW_.out (by kernel_rfl)) (fun _ _ _ h => h) (Or.inl ⟨by rfl, ?_⟩) hHeld ?_ ?_
        rotate_left
        ·rintro w' ⟨s0, s1, s2, s3, s4, s5⟩
         go_simp
         with_reducible rfl
        rotate_left
        ·simp only [Act.put, List.setIfInBounds_toArray, List.set_cons_zero, List.set_cons_succ, i64_w, i32_w]
         rfl
        refine one_ (i := 3) (N := some 42) #[true, true, true, true, false, false, false, false, false, false, false, false, false, false, false, false, false, false, false, false, false, false] rfl rfl (one_of HT_.out (by kernel_rfl)) (by decide) (fun K hK => ?_)
        refine goes_ Tryd.func23 (by kernel_rfl) rfl #[.agg #[.int .i64 a1_0, .int .i64 a1_1], .agg #[.int .i64 a0_0, .int .i64 a0_1]] (by rfl) rfl rfl agx ?_
        with_reducible refine (money_Add.calls kj5 a1_0 a1_1 a0_0 a0_1 t791 t792 _ A67.out (by first | exact HG0.out | exact Kd.C_below HG0.out blx)).mono ?_
        rintro e w82 ⟨rfl, hb⟩
        refine ⟨_, rfl, ?_⟩
        have n0_ := Aside0.mk (blk_below (g := gb783) (o := .cells #[.int .i64 a0_0, .int .i64 a0_1] 23 (0, 0)) bkx hb)
        have n1_ := Aside0.mk (blk_below (g := gb784) (o := .cells #[.int .i64 a1_0, .int .i64 a1_1] 23 (0, 0)) bkx hb)
        have n2_ := Aside0.mk (blk_below (g := gb788) (o := .cells #[.int .i64 t786, .int .i64 t787] 23 (0, 0)) bkx hb)
        have n3_ := Aside0.mk (below_step blx hb)
        clear BK783
        clear BK784
        clear BK788
        clear HB
        have BK783 := n0_
        have BK784 := n1_
        have BK788 := n2_
        have HB := n3_
        clear n0_ n1_ n2_ n3_
        (try clear hb)
        (try clear hb2)
        (try clear hk)
        (try clear hi)
        refine hK.out _ _ ⟨(blk_cell BK788.out 0).trans rfl, (blk_cell BK788.out 1).trans rfl, (blk_cell BK784.out 0).trans rfl, (blk_cell BK784.out 1).trans rfl, (blk_cell BK783.out 0).trans rfl, (blk_cell BK783.out 1).trans rfl⟩ (fun hHeld => ?_)
        clear hK K
        refine norm_ (a' := ?_) ?_ ?_
        rotate_left
        ·show Act.put _ (some 42) _ = _
         simp only [Act.put, List.setIfInBounds_toArray, List.set_cons_zero, List.set_cons_succ, i64_w, i32_w]
         rfl
        refine pure_ (i := 4) (N := some 43) (v := ?_) (a' := ?_) #[true, true, true, true, true, false, false, false, false, false, false, false, false, false, false, false, false, false, false, false, false, false] rfl rfl (any_of HT_.out (by kernel_rfl)) (fun _ _ _ h => h) (Or.inl ⟨by rfl, ?_⟩) ?_ ?_
        rotate_left
        ·intro w'
         go_simp
         with_reducible rfl
        rotate_left
        ·simp only [Act.put, List.setIfInBounds_toArray, List.set_cons_zero, List.set_cons_succ, i64_w, i32_w]
         rfl
        refine pure_ (i := 5) (N := some 44) (v := ?_) (a' := ?_) #[true, true, true, true, true, true, false, false, false, false, false, false, false, false, false, false, false, false, false, false, false, false] rfl rfl (any_of HT_.out (by kernel_rfl)) (fun _ _ _ h => h) (Or.inl ⟨by rfl, ?_⟩) ?_ ?_
        rotate_left
        ·intro w'
         go_simp
         with_reducible rfl
        rotate_left
        ·simp only [Act.put, List.setIfInBounds_toArray, List.set_cons_zero, List.set_cons_succ, i64_w, i32_w]
         rfl
        refine take_ (i := 6) (N := some 45) (v := ?_) (a' := ?_) #[true, true, true, true, true, true, true, false, false, false, false, false, false, false, false, false, false, false, false, false, false, false] rfl rfl (take_ofW HT_.out HW_.out (by kernel_rfl)) (fun _ _ _ h => h) (Or.inl ⟨by rfl, ?_⟩) hHeld ?_ ?_
        rotate_left
        ·rintro w' ⟨s0, s1, s2, s3, s4, s5⟩
         go_simp
         with_reducible rfl
        rotate_left
        ·simp only [Act.put, List.setIfInBounds_toArray, List.set_cons_zero, List.set_cons_succ, i64_w, i32_w]
         rfl
        refine take_ (i := 9) (N := some 48) (v := ?_) (a' := ?_) #[true, true, true, true, true, true, true, false, false, true, false, false, false, false, false, false, false, false, false, false, false, false] rfl rfl (take_ofW HT_.out HW_.out (by kernel_rfl)) (fun _ _ _ h => h) (Or.inl ⟨by rfl, ?_⟩) hHeld ?_ ?_
        rotate_left
        ·rintro w' ⟨s0, s1, s2, s3, s4, s5⟩
         go_simp
         with_reducible rfl
        rotate_left
        ·simp only [Act.put, List.setIfInBounds_toArray, List.set_cons_zero, List.set_cons_succ, i64_w, i32_w]
         rfl
        refine one_ (i := 7) (N := some 46) #[true, true, true, true, true, true, true, true, false, true, false, false, false, false, false, false, false, false, false, false, false, false] rfl rfl (one_of HT_.out (by kernel_rfl)) (by decide) (fun K hK => ?_)
        refine goes_ Tryd.func27 (by kernel_rfl) rfl #[.agg #[.int .i64 a0_0, .int .i64 a0_1]] (by rfl) rfl rfl agx ?_
        with_reducible refine (money_Neg.calls kj5 a0_0 a0_1 t793 t794 _ A71.out (by first | exact HG0.out | exact Kd.C_below HG0.out blx)).mono ?_
        rintro e w83 ⟨rfl, hb⟩
        refine ⟨_, rfl, ?_⟩
        have n0_ := Aside0.mk (blk_below (g := gb783) (o := .cells #[.int .i64 a0_0, .int .i64 a0_1] 23 (0, 0)) bkx hb)
        have n1_ := Aside0.mk (blk_below (g := gb784) (o := .cells #[.int .i64 a1_0, .int .i64 a1_1] 23 (0, 0)) bkx hb)
        have n2_ := Aside0.mk (blk_below (g := gb788) (o := .cells #[.int .i64 t786, .int .i64 t787] 23 (0, 0)) bkx hb)
        have n3_ := Aside0.mk (below_step blx hb)
        clear BK783
        clear BK784
        clear BK788
        clear HB
        have BK783 := n0_
        have BK784 := n1_
        have BK788 := n2_
        have HB := n3_
        clear n0_ n1_ n2_ n3_
        (try clear hb)
        (try clear hb2)
        (try clear hk)
        (try clear hi)
        refine hK.out _ _ ⟨(blk_cell BK788.out 0).trans rfl, (blk_cell BK788.out 1).trans rfl, (blk_cell BK784.out 0).trans rfl, (blk_cell BK784.out 1).trans rfl, (blk_cell BK783.out 0).trans rfl, (blk_cell BK783.out 1).trans rfl⟩ (fun hHeld => ?_)
        clear hK K
        refine norm_ (a' := ?_) ?_ ?_
        rotate_left
        ·show Act.put _ (some 46) _ = _
         simp only [Act.put, List.setIfInBounds_toArray, List.set_cons_zero, List.set_cons_succ, i64_w, i32_w]
         rfl
        refine one_ (i := 8) (N := some 47) #[true, true, true, true, true, true, true, true, true, true, false, false, false, false, false, false, false, false, false, false, false, false] rfl rfl (one_of HT_.out (by kernel_rfl)) (by decide) (fun K hK => ?_)
        refine goes_ Tryd.func27 (by kernel_rfl) rfl #[.agg #[.int .i64 t793, .int .i64 t794]] (by rfl) rfl rfl agx ?_
        with_reducible refine (money_Neg.calls kj5 t793 t794 t795 t796 _ A72.out (by first | exact HG0.out | exact Kd.C_below HG0.out blx)).mono ?_
        rintro e w84 ⟨rfl, hb⟩
        refine ⟨_, rfl, ?_⟩
        have n0_ := Aside0.mk (blk_below (g := gb783) (o := .cells #[.int .i64 a0_0, .int .i64 a0_1] 23 (0, 0)) bkx hb)
        have n1_ := Aside0.mk (blk_below (g := gb784) (o := .cells #[.int .i64 a1_0, .int .i64 a1_1] 23 (0, 0)) bkx hb)
        have n2_ := Aside0.mk (blk_below (g := gb788) (o := .cells #[.int .i64 t786, .int .i64 t787] 23 (0, 0)) bkx hb)
        have n3_ := Aside0.mk (below_step blx hb)
        clear BK783
        clear BK784
        clear BK788
        clear HB
        have BK783 := n0_
        have BK784 := n1_
        have BK788 := n2_
        have HB := n3_
        clear n0_ n1_ n2_ n3_
        (try clear hb)
        (try clear hb2)
        (try clear hk)
        (try clear hi)
        refine hK.out _ _ ⟨(blk_cell BK788.out 0).trans rfl, (blk_cell BK788.out 1).trans rfl, (blk_cell BK784.out 0).trans rfl, (blk_cell BK784.out 1).trans rfl, (blk_cell BK783.out 0).trans rfl, (blk_cell BK783.out 1).trans rfl⟩ (fun hHeld => ?_)
        clear hK K
        refine norm_ (a' := ?_) ?_ ?_
        rotate_left
        ·show Act.put _ (some 47) _ = _
         simp only [Act.put, List.setIfInBounds_toArray, List.set_cons_zero, List.set_cons_succ, i64_w, i32_w]
         rfl
        refine pure_ (i := 10) (N := some 49) (v := ?_) (a' := ?_) #[true, true, true, true, true, true, true, true, true, true, true, false, false, false, false, false, false, false, false, false, false, false] rfl rfl (any_of HT_.out (by kernel_rfl)) (fun _ _ _ h => h) (Or.inl ⟨by rfl, ?_⟩) ?_ ?_
        rotate_left
        ·intro w'
         go_simp
         with_reducible rfl
        rotate_left
        ·simp only [Act.put, List.setIfInBounds_toArray, List.set_cons_zero, List.set_cons_succ, i64_w, i32_w]
         rfl
        refine pure_ (i := 11) (N := some 50) (v := ?_) (a' := ?_) #[true, true, true, true, true, true, true, true, true, true, true, true, false, false, false, false, false, false, false, false, false, false] rfl rfl (any_of HT_.out (by kernel_rfl)) (fun _ _ _ h => h) (Or.inl ⟨by rfl, ?_⟩) ?_ ?_
        rotate_left
        ·intro w'
         go_simp
         with_reducible rfl
        rotate_left
        ·simp only [Act.put, List.setIfInBounds_toArray, List.set_cons_zero, List.set_cons_succ, i64_w, i32_w]
         rfl
        refine pure_ (i := 12) (N := some 51) (v := ?_) (a' := ?_) #[true, true, true, true, true, true, true, true, true, true, true, true, true, false, false, false, false, false, false, false, false, false] rfl rfl (any_of HT_.out (by kernel_rfl)) (fun _ _ _ h => h) (Or.inl ⟨by rfl, ?_⟩) ?_ ?_
        rotate_left
        ·intro w'
         go_simp
         with_reducible rfl
        rotate_left
        ·simp only [Act.put, List.setIfInBounds_toArray, List.set_cons_zero, List.set_cons_succ, i64_w, i32_w]
         rfl
        refine take_ (i := 13) (N := some 52) (v := ?_) (a' := ?_) #[true, true, true, true, true, true, true, true, true, true, true, true, true, true, false, false, false, false, false, false, false, false] rfl rfl (take_ofW HT_.out HW_.out (by kernel_rfl)) (fun _ _ _ h => h) (Or.inl ⟨by rfl, ?_⟩) hHeld ?_ ?_
        rotate_left
        ·rintro w' ⟨s0, s1, s2, s3, s4, s5⟩
         go_simp
         with_reducible rfl
        rotate_left
        ·simp only [Act.put, List.setIfInBounds_toArray, List.set_cons_zero, List.set_cons_succ, i64_w, i32_w]
         rfl
        refine take_ (i := 14) (N := some 53) (v := ?_) (a' := ?_) #[true, true, true, true, true, true, true, true, true, true, true, true, true, true, true, false, false, false, false, false, false, false] rfl rfl (take_ofW HT_.out HW_.out (by kernel_rfl)) (fun _ _ _ h => h) (Or.inl ⟨by rfl, ?_⟩) hHeld ?_ ?_
        rotate_left
        ·rintro w' ⟨s0, s1, s2, s3, s4, s5⟩
         go_simp
         with_reducible rfl
        rotate_left
        ·simp only [Act.put, List.setIfInBounds_toArray, List.set_cons_zero, List.set_cons_succ, i64_w, i32_w]
         rfl
        refine take_ (i := 16) (N := some 55) (v := ?_) (a' := ?_) #[true, true, true, true, true, true, true, true, true, true, true, true, true, true, true, false, true, false, false, false, false, false] rfl rfl (take_ofW HT_.out HW_.out (by kernel_rfl)) (fun _ _ _ h => h) (Or.inl ⟨by rfl, ?_⟩) hHeld ?_ ?_
        rotate_left
        ·rintro w' ⟨s0, s1, s2, s3, s4, s5⟩
         go_simp
         with_reducible rfl
        rotate_left
        ·simp only [Act.put, List.setIfInBounds_toArray, List.set_cons_zero, List.set_cons_succ, i64_w, i32_w]
         rfl
        refine take_ (i := 17) (N := some 56) (v := ?_) (a' := ?_) #[true, true, true, true, true, true, true, true, true, true, true, true, true, true, true, false, true, true, false, false, false, false] rfl rfl (take_ofW HT_.out HW_.out (by kernel_rfl)) (fun _ _ _ h => h) (Or.inl ⟨by rfl, ?_⟩) hHeld ?_ ?_
        rotate_left
        ·rintro w' ⟨s0, s1, s2, s3, s4, s5⟩
         go_simp
         with_reducible rfl
        rotate_left
        ·simp only [Act.put, List.setIfInBounds_toArray, List.set_cons_zero, List.set_cons_succ, i64_w, i32_w]
         rfl
        refine one_ (i := 15) (N := some 54) #[true, true, true, true, true, true, true, true, true, true, true, true, true, true, true, true, true, true, false, false, false, false] rfl rfl (one_of HT_.out (by kernel_rfl)) (by decide) (fun K hK => ?_)
        refine goes_ Tryd.func25 (by kernel_rfl) rfl #[.agg #[.int .i64 a0_0, .int .i64 a0_1], .agg #[.int .i64 a1_0, .int .i64 a1_1]] (by rfl) rfl rfl agx ?_
        with_reducible refine (money_Sub.calls kj5 a0_0 a0_1 a1_0 a1_1 t797 t798 _ A78.out (by first | exact HG0.out | exact Kd.C_below HG0.out blx)).mono ?_
        rintro e w85 ⟨rfl, hb⟩
        refine ⟨_, rfl, ?_⟩
        have n0_ := Aside0.mk (blk_below (g := gb783) (o := .cells #[.int .i64 a0_0, .int .i64 a0_1] 23 (0, 0)) bkx hb)
        have n1_ := Aside0.mk (blk_below (g := gb784) (o := .cells #[.int .i64 a1_0, .int .i64 a1_1] 23 (0, 0)) bkx hb)
        have n2_ := Aside0.mk (blk_below (g := gb788) (o := .cells #[.int .i64 t786, .int .i64 t787] 23 (0, 0)) bkx hb)
        have n3_ := Aside0.mk (below_step blx hb)
        clear BK783
        clear BK784
        clear BK788
        clear HB
        have BK783 := n0_
        have BK784 := n1_
        have BK788 := n2_
        have HB := n3_
        clear n0_ n1_ n2_ n3_
        (try clear hb)
        (try clear hb2)
        (try clear hk)
        (try clear hi)
        refine hK.out _ _ ⟨(blk_cell BK788.out 0).trans rfl, (blk_cell BK788.out 1).trans rfl, (blk_cell BK784.out 0).trans rfl, (blk_cell BK784.out 1).trans rfl, (blk_cell BK783.out 0).trans rfl, (blk_cell BK783.out 1).trans rfl⟩ (fun hHeld => ?_)
        clear hK K
        refine norm_ (a' := ?_) ?_ ?_
        rotate_left
        ·show Act.put _ (some 54) _ = _
         simp only [Act.put, List.setIfInBounds_toArray, List.set_cons_zero, List.set_cons_succ, i64_w, i32_w]
         rfl
        refine one_ (i := 18) (N := some 57) #[true, true, true, true, true, true, true, true, true, true, true, true, true, true, true, true, true, true, true, false, false, false] rfl rfl (one_of HT_.out (by kernel_rfl)) (by decide) (fun K hK => ?_)
        refine goes_ Tryd.func27 (by kernel_rfl) rfl #[.agg #[.int .i64 a1_0, .int .i64 a1_1]] (by rfl) rfl rfl agx ?_
        with_reducible refine (money_Neg.calls kj5 a1_0 a1_1 t799 t800 _ A79.out (by first | exact HG0.out | exact Kd.C_below HG0.out blx)).mono ?_
        rintro e w86 ⟨rfl, hb⟩
        refine ⟨_, rfl, ?_⟩
        have n0_ := Aside0.mk (blk_below (g := gb783) (o := .cells #[.int .i64 a0_0, .int .i64 a0_1] 23 (0, 0)) bkx hb)
        have n1_ := Aside0.mk (blk_below (g := gb784) (o := .cells #[.int .i64 a1_0, .int .i64 a1_1] 23 (0, 0)) bkx hb)
        have n2_ := Aside0.mk (blk_below (g := gb788) (o := .cells #[.int .i64 t786, .int .i64 t787] 23 (0, 0)) bkx hb)
        have n3_ := Aside0.mk (below_step blx hb)
        clear BK783
        clear BK784
        clear BK788
        clear HB
        have BK783 := n0_
        have BK784 := n1_
        have BK788 := n2_
        have HB := n3_
        clear n0_ n1_ n2_ n3_
        (try clear hb)
        (try clear hb2)
        (try clear hk)
        (try clear hi)
        refine hK.out _ _ ⟨(blk_cell BK788.out 0).trans rfl, (blk_cell BK788.out 1).trans rfl, (blk_cell BK784.out 0).trans rfl, (blk_cell BK784.out 1).trans rfl, (blk_cell BK783.out 0).trans rfl, (blk_cell BK783.out 1).trans rfl⟩ (fun hHeld => ?_)
        clear hK K
        refine norm_ (a' := ?_) ?_ ?_
        rotate_left
        ·show Act.put _ (some 57) _ = _
         simp only [Act.put, List.setIfInBounds_toArray, List.set_cons_zero, List.set_cons_succ, i64_w, i32_w]
         rfl
        refine one_ (i := 19) (N := some 58) #[true, true, true, true, true, true, true, true, true, true, true, true, true, true, true, true, true, true, true, true, false, false] rfl rfl (one_of HT_.out (by kernel_rfl)) (by decide) (fun K hK => ?_)
        refine goes_ Tryd.func23 (by kernel_rfl) rfl #[.agg #[.int .i64 a0_0, .int .i64 a0_1], .agg #[.int .i64 t799, .int .i64 t800]] (by rfl) rfl rfl agx ?_
        with_reducible refine (money_Add.calls kj5 a0_0 a0_1 t799 t800 t801 t802 _ A80.out (by first | exact HG0.out | exact Kd.C_below HG0.out blx)).mono ?_
        rintro e w87 ⟨rfl, hb⟩
        refine ⟨_, rfl, ?_⟩
        have n0_ := Aside0.mk (blk_below (g := gb783) (o := .cells #[.int .i64 a0_0, .int .i64 a0_1] 23 (0, 0)) bkx hb)
        have n1_ := Aside0.mk (blk_below (g := gb784) (o := .cells #[.int .i64 a1_0, .int .i64 a1_1] 23 (0, 0)) bkx hb)
        have n2_ := Aside0.mk (blk_below (g := gb788) (o := .cells #[.int .i64 t786, .int .i64 t787] 23 (0, 0)) bkx hb)
        have n3_ := Aside0.mk (below_step blx hb)
        clear BK783
        clear BK784
        clear BK788
        clear HB
        have BK783 := n0_
        have BK784 := n1_
        have BK788 := n2_
        have HB := n3_
        clear n0_ n1_ n2_ n3_
        (try clear hb)
        (try clear hb2)
        (try clear hk)
        (try clear hi)
        refine hK.out _ _ ⟨(blk_cell BK788.out 0).trans rfl, (blk_cell BK788.out 1).trans rfl, (blk_cell BK784.out 0).trans rfl, (blk_cell BK784.out 1).trans rfl, (blk_cell BK783.out 0).trans rfl, (blk_cell BK783.out 1).trans rfl⟩ (fun hHeld => ?_)
        clear hK K
        refine norm_ (a' := ?_) ?_ ?_
        rotate_left
        ·show Act.put _ (some 58) _ = _
         simp only [Act.put, List.setIfInBounds_toArray, List.set_cons_zero, List.set_cons_succ, i64_w, i32_w]
         rfl
        refine pure_ (i := 20) (N := some 59) (v := ?_) (a' := ?_) #[true, true, true, true, true, true, true, true, true, true, true, true, true, true, true, true, true, true, true, true, true, false] rfl rfl (any_of HT_.out (by kernel_rfl)) (fun _ _ _ h => h) (Or.inl ⟨by rfl, ?_⟩) ?_ ?_
        rotate_left
        ·intro w'
         go_simp
         with_reducible rfl
        rotate_left
        ·simp only [Act.put, List.setIfInBounds_toArray, List.set_cons_zero, List.set_cons_succ, i64_w, i32_w]
         rfl
        refine pure_ (i := 21) (N := some 60) (v := ?_) (a' := ?_) #[true, true, true, true, true, true, true, true, true, true, true, true, true, true, true, true, true, true, true, true, true, true] rfl rfl (any_of HT_.out (by kernel_rfl)) (fun _ _ _ h => h) (Or.inl ⟨by rfl, ?_⟩) ?_ ?_
        rotate_left
        ·intro w'
         go_simp
         with_reducible rfl
        rotate_left
        ·simp only [Act.put, List.setIfInBounds_toArray, List.set_cons_zero, List.set_cons_succ, i64_w, i32_w]
         rfl
        refine done_ (done_of HT_.out (by kernel_rfl)) ?_
        try go_wp2
        go_meet
        case rel => exact ⟨_, ((!(t797 == t801) || (!(t798 == t802)))), (by first | rfl | (simp; done) | (simp [*]; done)), H', ⟨by have := HJ5.out; first | omega | exact Nat.le_refl _⟩, ⟨bkx⟩, ⟨bkx⟩, ⟨bkx⟩, ⟨blx⟩⟩
     case rest =>
      clear HC66
      try clear c2
      try clear p2
      try clear c6
      try clear c7
      try clear c23
      try clear c25
      try clear c27
      try clear c68
      try clear c68b0
      try clear c73
      try clear c73b0
      obtain ⟨kq, x60_65, rfl, HA, HJ65, BK783, BK784, BK788, HB⟩ := hcut
      cases kq with
      | zero => exact absurd HA.out (by simp [levylaw1_MoneyBack.j1])
      | succ kj65 =>
       have H := HA.out
       clear HA
       simp only [levylaw1_MoneyBack.j1] at H
       by_cases c88 : x60_65 = true
       ·subst c88
        have H1 : (some false) = some r := by rw [if_pos rfl] at H; exact H
        clear H
        have H := H1
        clear H1
        obtain rfl := Option.some.inj H
        go_wp2
        go_ret
        exact ⟨by first | rfl | (simp [errW_none, errW_some] <;> rfl) | (simp [*, errW_none, errW_some] <;> rfl), blx⟩
       ·replace c88 := Bool.eq_false_iff.mpr c88
        subst c88
        have H1 : ((money_Min.f kj65 a0_0 a0_1 a1_0 a1_1).bind fun bt803 => ((money_Max.f kj65 a0_0 a0_1 a1_0 a1_1).bind fun bt805 => (if ((bt803.1 == bt805.1 && (bt803.2 == bt805.2)) != (a0_0 == a1_0 && (a0_1 == a1_1))) = true then (some false) else (if t786 = 6 then (some true) else ((money_Sub.f kj65 t786 t787 a1_0 a1_1).bind fun bt807 => (some (bt807.1 == a0_0 && (bt807.2 == a0_1)))))))) = some r := by rw [if_neg (show ¬ (false = true) by decide)] at H; exact H
        clear H
        have H := H1
        clear H1
        replace H := Option.bind_eq_some_iff.mp H
        obtain ⟨⟨t803, t804⟩, A890, H⟩ := H
        replace H : ((money_Max.f kj65 a0_0 a0_1 a1_0 a1_1).bind fun bt805 => (if ((t803 == bt805.1 && (t804 == bt805.2)) != (a0_0 == a1_0 && (a0_1 == a1_1))) = true then (some false) else (if t786 = 6 then (some true) else ((money_Sub.f kj65 t786 t787 a1_0 a1_1).bind fun bt807 => (some (bt807.1 == a0_0 && (bt807.2 == a0_1))))))) = some r := H
        have A89 := Aside0.mk A890
        clear A890
        replace H := Option.bind_eq_some_iff.mp H
        obtain ⟨⟨t805, t806⟩, A900, H⟩ := H
        replace H : (if ((t803 == t805 && (t804 == t806)) != (a0_0 == a1_0 && (a0_1 == a1_1))) = true then (some false) else (if t786 = 6 then (some true) else ((money_Sub.f kj65 t786 t787 a1_0 a1_1).bind fun bt807 => (some (bt807.1 == a0_0 && (bt807.2 == a0_1)))))) = some r := H
        have A90 := Aside0.mk A900
        clear A900
        by_cases c91 : ((t803 == t805 && (t804 == t806)) != (a0_0 == a1_0 && (a0_1 == a1_1))) = true
        ·rw [if_pos c91] at H
         have c91b0 : ((t803 == t805 && (t804 == t806)) != (a0_0 == a1_0 && (a0_1 == a1_1))) = true := c91
         (try (have c91b1 : decide ((t803 == t805 && (t804 == t806)) = (a0_0 == a1_0 && (a0_1 == a1_1))) = false := by simpa using c91))
         (try (have c91b2 : ((t803 == t805 && (t804 == t806)) == (a0_0 == a1_0 && (a0_1 == a1_1))) = false := by simpa using c91))
         (try (have c91b3 : ¬ ((t803 == t805 && (t804 == t806)) = (a0_0 == a1_0 && (a0_1 == a1_1))) := by simpa using c91))
         clear c91
         obtain rfl := Option.some.inj H
         try go_wp2
         have n0_ := Aside0.mk (blk_drew BK783.out)
         have n1_ := Aside0.mk (blk_drew BK784.out)
         have n2_ := Aside0.mk (blk_drew BK788.out)
         have n3_ := Aside0.mk (below_drew1 HB.out)
         clear BK783
         clear BK784
         clear BK788
         clear HB
         have BK783 := n0_
         have BK784 := n1_
         have BK788 := n2_
         have HB := n3_
         clear n0_ n1_ n2_ n3_
         refine start_ (n := 11) (S := fun w' => w'.cell? ⟨gb783, 0, none⟩ = some (.int .i64 a0_0) ∧ w'.cell? ⟨gb783, 1, none⟩ = some (.int .i64 a0_1) ∧ w'.cell? ⟨gb784, 0, none⟩ = some (.int .i64 a1_0) ∧ w'.cell? ⟨gb784, 1, none⟩ = some (.int .i64 a1_1)) (ds := []) #[false, false, false, false, false, false, false, false, false, false, false] (by kernel_rfl) rfl rfl ⟨(blk_cell BK783.out 0).trans rfl, (blk_cell BK783.out 1).trans rfl, (blk_cell BK784.out 0).trans rfl, (blk_cell BK784.out 1).trans rfl⟩ (fun hHeld => ?_); refine with_tabW levylaw1_MoneyBack.tab8 levylaw1_MoneyBack.bits8 (fun HT_ HW_ => ?_)
         generalize wc.drew = w92 at BK783 BK784 BK788 HB hHeld ⊢
         refine take_ (i := 0) (N := some 61) (v := ?_) (a' := ?_) #[true, false, false, false, false, false, false, false, false, false, false] rfl rfl (take_ofW HT_.out HW_.out (by kernel_rfl)) (fun _ _ _ h => h) (Or.inl ⟨by rfl, ?_⟩) hHeld ?_ ?_
         rotate_left
         ·rintro w' ⟨s0, s1, s2, s3⟩
          go_simp
          with_reducible rfl
         rotate_left
         ·simp only [Act.put, List.setIfInBounds_toArray, List.set_cons_zero, List.set_cons_succ, i64_w, i32_w]
          rfl
         refine take_ (i := 1) (N := some 62) (v := ?_) (a' := ?_) #[true, true, false, false, false, false, false, false, false, false, false] rfl rfl (take_ofW HT_.out HW_.out (by kernel_rfl)) (fun _ _ _ h => h) (Or.inl ⟨by rfl, ?_⟩) hHeld ?_ ?_
         rotate_left
         ·rintro w' ⟨s0, s1, s2, s3⟩
          go_simp
          with_reducible rfl
         rotate_left
         ·simp only [Act.put, List.setIfInBounds_toArray, List.set_cons_zero, List.set_cons_succ, i64_w, i32_w]
          rfl
         refine take_ (i := 3) (N := some 64) (v := ?_) (a' := ?_) #[true, true, false, true, false, false, false, false, false, false, false] rfl rfl (take_ofW HT_.out HW_.out (by kernel_rfl)) (fun _ _ _ h => h) (Or.inl ⟨by rfl, ?_⟩) hHeld ?_ ?_
         rotate_left
         ·rintro w' ⟨s0, s1, s2, s3⟩
          go_simp
          with_reducible rfl
         rotate_left
         ·simp only [Act.put, List.setIfInBounds_toArray, List.set_cons_zero, List.set_cons_succ, i64_w, i32_w]
          rfl
         refine take_ (i := 4) (N := some 65) (v := ?_) (a' := ?_) #[true, true, false, true, true, false, false, false, false, false, false] rfl rfl (take_ofW HT_.out HW_.out (by kernel_rfl)) (fun _ _ _ h => h) (Or.inl ⟨by rfl, ?_⟩) hHeld ?_ ?_
         rotate_left
         ·rintro w' ⟨s0, s1, s2, s3⟩
          go_simp
          with_reducible rfl
         rotate_left
         ·simp only [Act.put, List.setIfInBounds_toArray, List.set_cons_zero, List.set_cons_succ, i64_w, i32_w]
          rfl
         refine take_ (i := 7) (N := some 68) (v := ?_) (a' := ?_) #[true, true, false, true, true, false, false, true, false, false, false] rfl rfl (take_ofW HT_.out HW_.out (by kernel_rfl)) (fun _ _ _ h => h) (Or.inl ⟨by rfl, ?_⟩) hHeld ?_ ?_
         rotate_left
         ·rintro w' ⟨s0, s1, s2, s3⟩
          go_simp
          with_reducible rfl
         rotate_left
         ·simp only [Act.put, List.setIfInBounds_toArray, List.set_cons_zero, List.set_cons_succ, i64_w, i32_w]
          rfl
         refine take_ (i := 8) (N := some 69) (v := ?_) (a' := ?_) #[true, true, false, true, true, false, false, true, true, false, false] rfl rfl (take_ofW HT_.out HW_.out (by kernel_rfl)) (fun _ _ _ h => h) (Or.inl ⟨by rfl, ?_⟩) hHeld ?_ ?_
         rotate_left
         ·rintro w' ⟨s0, s1, s2, s3⟩
          go_simp
          with_reducible rfl
         rotate_left
         ·simp only [Act.put, List.setIfInBounds_toArray, List.set_cons_zero, List.set_cons_succ, i64_w, i32_w]
          rfl
         refine pure_ (i := 9) (N := some 70) (v := ?_) (a' := ?_) #[true, true, false, true, true, false, false, true, true, true, false] rfl rfl (any_of HT_.out (by kernel_rfl)) (fun _ _ _ h => h) (Or.inl ⟨by rfl, ?_⟩) ?_ ?_
         rotate_left
         ·intro w'
          go_simp
          with_reducible rfl
         rotate_left
         ·simp only [Act.put, List.setIfInBounds_toArray, List.set_cons_zero, List.set_cons_succ, i64_w, i32_w]
          rfl
         refine one_ (i := 2) (N := some 63) #[true, true, true, true, true, false, false, true, true, true, false] rfl rfl (one_of HT_.out (by kernel_rfl)) (by decide) (fun K hK => ?_)
         refine goes_ Tryd.func31 (by kernel_rfl) rfl #[.agg #[.int .i64 a0_0, .int .i64 a0_1], .agg #[.int .i64 a1_0, .int .i64 a1_1]] (by rfl) rfl rfl agx ?_
         with_reducible refine (money_Min.calls kj65 a0_0 a0_1 a1_0 a1_1 t803 t804 _ A89.out (by first | exact HG0.out | exact Kd.C_below HG0.out blx)).mono ?_
         rintro e w93 ⟨rfl, hb⟩
         refine ⟨_, rfl, ?_⟩
         have n0_ := Aside0.mk (blk_below (g := gb783) (o := .cells #[.int .i64 a0_0, .int .i64 a0_1] 23 (0, 0)) bkx hb)
         have n1_ := Aside0.mk (blk_below (g := gb784) (o := .cells #[.int .i64 a1_0, .int .i64 a1_1] 23 (0, 0)) bkx hb)
         have n2_ := Aside0.mk (blk_below (g := gb788) (o := .cells #[.int .i64 t786, .int .i64 t787] 23 (0, 0)) bkx hb)
         have n3_ := Aside0.mk (below_step blx hb)
         clear BK783
         clear BK784
         clear BK788
         clear HB
         have BK783 := n0_
         have BK784 := n1_
         have BK788 := n2_
         have HB := n3_
         clear n0_ n1_ n2_ n3_
         (try clear hb)
         (try clear hb2)
         (try clear hk)
         (try clear hi)
         refine hK.out _ _ ⟨(blk_cell BK783.out 0).trans rfl, (blk_cell BK783.out 1).trans rfl, (blk_cell BK784.out 0).trans rfl, (blk_cell BK784.out 1).trans rfl⟩ (fun hHeld => ?_)
         clear hK K
         refine norm_ (a' := ?_) ?_ ?_
         rotate_left
         ·show Act.put _ (some 63) _ = _
          simp only [Act.put, List.setIfInBounds_toArray, List.set_cons_zero, List.set_cons_succ, i64_w, i32_w]
          rfl
         refine one_ (i := 5) (N := some 66) #[true, true, true, true, true, true, false, true, true, true, false] rfl rfl (one_of HT_.out (by kernel_rfl)) (by decide) (fun K hK => ?_)
         refine goes_ Tryd.func33 (by kernel_rfl) rfl #[.agg #[.int .i64 a0_0, .int .i64 a0_1], .agg #[.int .i64 a1_0, .int .i64 a1_1]] (by rfl) rfl rfl agx ?_
         with_reducible refine (money_Max.calls kj65 a0_0 a0_1 a1_0 a1_1 t805 t806 _ A90.out (by first | exact HG0.out | exact Kd.C_below HG0.out blx)).mono ?_
         rintro e w94 ⟨rfl, hb⟩
         refine ⟨_, rfl, ?_⟩
         have n0_ := Aside0.mk (blk_below (g := gb783) (o := .cells #[.int .i64 a0_0, .int .i64 a0_1] 23 (0, 0)) bkx hb)
         have n1_ := Aside0.mk (blk_below (g := gb784) (o := .cells #[.int .i64 a1_0, .int .i64 a1_1] 23 (0, 0)) bkx hb)
         have n2_ := Aside0.mk (blk_below (g := gb788) (o := .cells #[.int .i64 t786, .int .i64 t787] 23 (0, 0)) bkx hb)
         have n3_ := Aside0.mk (below_step blx hb)
         clear BK783
         clear BK784
         clear BK788
         clear HB
         have BK783 := n0_
         have BK784 := n1_
         have BK788 := n2_
         have HB := n3_
         clear n0_ n1_ n2_ n3_
         (try clear hb)
         (try clear hb2)
         (try clear hk)
         (try clear hi)
         refine hK.out _ _ ⟨(blk_cell BK783.out 0).trans rfl, (blk_cell BK783.out 1).trans rfl, (blk_cell BK784.out 0).trans rfl, (blk_cell BK784.out 1).trans rfl⟩ (fun hHeld => ?_)
         clear hK K
         refine norm_ (a' := ?_) ?_ ?_
         rotate_left
         ·show Act.put _ (some 66) _ = _
          simp only [Act.put, List.setIfInBounds_toArray, List.set_cons_zero, List.set_cons_succ, i64_w, i32_w]
          rfl
         refine pure_ (i := 6) (N := some 67) (v := ?_) (a' := ?_) #[true, true, true, true, true, true, true, true, true, true, false] rfl rfl (any_of HT_.out (by kernel_rfl)) (fun _ _ _ h => h) (Or.inl ⟨by rfl, ?_⟩) ?_ ?_
         rotate_left
         ·intro w'
          go_simp
          with_reducible rfl
         rotate_left
         ·simp only [Act.put, List.setIfInBounds_toArray, List.set_cons_zero, List.set_cons_succ, i64_w, i32_w]
          rfl
         refine pure_ (i := 10) (N := some 71) (v := ?_) (a' := ?_) #[true, true, true, true, true, true, true, true, true, true, true] rfl rfl (any_of HT_.out (by kernel_rfl)) (fun _ _ _ h => h) (Or.inl ⟨by rfl, ?_⟩) ?_ ?_
         rotate_left
         ·intro w'
          go_simp
          with_reducible rfl
         rotate_left
         ·simp only [Act.put, List.setIfInBounds_toArray, List.set_cons_zero, List.set_cons_succ, i64_w, i32_w]
          rfl
         refine done_ (done_of HT_.out (by kernel_rfl)) ?_
         try go_wp2
         go_ret
         exact ⟨by first | rfl | (simp [errW_none, errW_some] <;> rfl) | (simp [*, errW_none, errW_some] <;> rfl), blx⟩
        ·rw [if_neg c91] at H
         have c91b0 : ((t803 == t805 && (t804 == t806)) != (a0_0 == a1_0 && (a0_1 == a1_1))) = false := by simpa using c91
         (try (have c91b1 : decide ((t803 == t805 && (t804 == t806)) = (a0_0 == a1_0 && (a0_1 == a1_1))) = true := by simpa using c91))
         (try (have c91b2 : ((t803 == t805 && (t804 == t806)) == (a0_0 == a1_0 && (a0_1 == a1_1))) = true := by simpa using c91))
         clear c91
         by_cases c95 : t786 = 6
         ·rw [if_pos c95] at H
          have c95b0 : (t786 == 6) = true := beq_iff_eq.mpr c95
          have c95b1 : (t786 != 6) = false := bne_eq_false_iff_eq.mpr c95
          clear c95
          obtain rfl := Option.some.inj H
          try go_wp2
          have n0_ := Aside0.mk (blk_drew BK783.out)
          have n1_ := Aside0.mk (blk_drew BK784.out)
          have n2_ := Aside0.mk (blk_drew BK788.out)
          have n3_ := Aside0.mk (below_drew1 HB.out)
          clear BK783
          clear BK784
          clear BK788
          clear HB
          have BK783 := n0_
          have BK784 := n1_
          have BK788 := n2_
          have HB := n3_
          clear n0_ n1_ n2_ n3_
          refine start_ (n := 11) (S := fun w' => w'.cell? ⟨gb783, 0, none⟩ = some (.int .i64 a0_0) ∧ w'.cell? ⟨gb783, 1, none⟩ = some (.int .i64 a0_1) ∧ w'.cell? ⟨gb784, 0, none⟩ = some (.int .i64 a1_0) ∧ w'.cell? ⟨gb784, 1, none⟩ = some (.int .i64 a1_1)) (ds := []) #[false, false, false, false, false, false, false, false, false, false, false] (by kernel_rfl) rfl rfl ⟨(blk_cell BK783.out 0).trans rfl, (blk_cell BK783.out 1).trans rfl, (blk_cell BK784.out 0).trans rfl, (blk_cell BK784.out 1).trans rfl⟩ (fun hHeld => ?_); refine with_tabW levylaw1_MoneyBack.tab8 levylaw1_MoneyBack.bits8 (fun HT_ HW_ => ?_)
          generalize wc.drew = w96 at BK783 BK784 BK788 HB hHeld ⊢
          refine take_ (i := 0) (N := some 61) (v := ?_) (a' := ?_) #[true, false, false, false, false, false, false, false, false, false, false] rfl rfl (take_ofW HT_.out HW_.out (by kernel_rfl)) (fun _ _ _ h => h) (Or.inl ⟨by rfl, ?_⟩) hHeld ?_ ?_
          rotate_left
          ·rintro w' ⟨s0, s1, s2, s3⟩
           go_simp
           with_reducible rfl
          rotate_left
          ·simp only [Act.put, List.setIfInBounds_toArray, List.set_cons_zero, List.set_cons_succ, i64_w, i32_w]
           rfl
          refine take_ (i := 1) (N := some 62) (v := ?_) (a' := ?_) #[true, true, false, false, false, false, false, false, false, false, false] rfl rfl (take_ofW HT_.out HW_.out (by kernel_rfl)) (fun _ _ _ h => h) (Or.inl ⟨by rfl, ?_⟩) hHeld ?_ ?_
          rotate_left
          ·rintro w' ⟨s0, s1, s2, s3⟩
           go_simp
           with_reducible rfl
          rotate_left
          ·simp only [Act.put, List.setIfInBounds_toArray, List.set_cons_zero, List.set_cons_succ, i64_w, i32_w]
           rfl
          refine take_ (i := 3) (N := some 64) (v := ?_) (a' := ?_) #[true, true, false, true, false, false, false, false, false, false, false] rfl rfl (take_ofW HT_.out HW_.out (by kernel_rfl)) (fun _ _ _ h => h) (Or.inl ⟨by rfl, ?_⟩) hHeld ?_ ?_
          rotate_left
          ·rintro w' ⟨s0, s1, s2, s3⟩
           go_simp
           with_reducible rfl
          rotate_left
          ·simp only [Act.put, List.setIfInBounds_toArray, List.set_cons_zero, List.set_cons_succ, i64_w, i32_w]
           rfl
          refine take_ (i := 4) (N := some 65) (v := ?_) (a' := ?_) #[true, true, false, true, true, false, false, false, false, false, false] rfl rfl (take_ofW HT_.out HW_.out (by kernel_rfl)) (fun _ _ _ h => h) (Or.inl ⟨by rfl, ?_⟩) hHeld ?_ ?_
          rotate_left
          ·rintro w' ⟨s0, s1, s2, s3⟩
           go_simp
           with_reducible rfl
          rotate_left
          ·simp only [Act.put, List.setIfInBounds_toArray, List.set_cons_zero, List.set_cons_succ, i64_w, i32_w]
           rfl
          refine take_ (i := 7) (N := some 68) (v := ?_) (a' := ?_) #[true, true, false, true, true, false, false, true, false, false, false] rfl rfl (take_ofW HT_.out HW_.out (by kernel_rfl)) (fun _ _ _ h => h) (Or.inl ⟨by rfl, ?_⟩) hHeld ?_ ?_
          rotate_left
          ·rintro w' ⟨s0, s1, s2, s3⟩
           go_simp
           with_reducible rfl
          rotate_left
          ·simp only [Act.put, List.setIfInBounds_toArray, List.set_cons_zero, List.set_cons_succ, i64_w, i32_w]
           rfl
          refine take_ (i := 8) (N := some 69) (v := ?_) (a' := ?_) #[true, true, false, true, true, false, false, true, true, false, false] rfl rfl (take_ofW HT_.out HW_.out (by kernel_rfl)) (fun _ _ _ h => h) (Or.inl ⟨by rfl, ?_⟩) hHeld ?_ ?_
          rotate_left
          ·rintro w' ⟨s0, s1, s2, s3⟩
           go_simp
           with_reducible rfl
          rotate_left
          ·simp only [Act.put, List.setIfInBounds_toArray, List.set_cons_zero, List.set_cons_succ, i64_w, i32_w]
           rfl
          refine pure_ (i := 9) (N := some 70) (v := ?_) (a' := ?_) #[true, true, false, true, true, false, false, true, true, true, false] rfl rfl (any_of HT_.out (by kernel_rfl)) (fun _ _ _ h => h) (Or.inl ⟨by rfl, ?_⟩) ?_ ?_
          rotate_left
          ·intro w'
           go_simp
           with_reducible rfl
          rotate_left
          ·simp only [Act.put, List.setIfInBounds_toArray, List.set_cons_zero, List.set_cons_succ, i64_w, i32_w]
           rfl
          refine one_ (i := 2) (N := some 63) #[true, true, true, true, true, false, false, true, true, true, false] rfl rfl (one_of HT_.out (by kernel_rfl)) (by decide) (fun K hK => ?_)
          refine goes_ Tryd.func31 (by kernel_rfl) rfl #[.agg #[.int .i64 a0_0, .int .i64 a0_1], .agg #[.int .i64 a1_0, .int .i64 a1_1]] (by rfl) rfl rfl agx ?_
          with_reducible refine (money_Min.calls kj65 a0_0 a0_1 a1_0 a1_1 t803 t804 _ A89.out (by first | exact HG0.out | exact Kd.C_below HG0.out blx)).mono ?_
          rintro e w97 ⟨rfl, hb⟩
          refine ⟨_, rfl, ?_⟩
          have n0_ := Aside0.mk (blk_below (g := gb783) (o := .cells #[.int .i64 a0_0, .int .i64 a0_1] 23 (0, 0)) bkx hb)
          have n1_ := Aside0.mk (blk_below (g := gb784) (o := .cells #[.int .i64 a1_0, .int .i64 a1_1] 23 (0, 0)) bkx hb)
          have n2_ := Aside0.mk (blk_below (g := gb788) (o := .cells #[.int .i64 t786, .int .i64 t787] 23 (0, 0)) bkx hb)
          have n3_ := Aside0.mk (below_step blx hb)
          clear BK783
          clear BK784
          clear BK788
          clear HB
          have BK783 := n0_
          have BK784 := n1_
          have BK788 := n2_
          have HB := n3_
          clear n0_ n1_ n2_ n3_
          (try clear hb)
          (try clear hb2)
          (try clear hk)
          (try clear hi)
          refine hK.out _ _ ⟨(blk_cell BK783.out 0).trans rfl, (blk_cell BK783.out 1).trans rfl, (blk_cell BK784.out 0).trans rfl, (blk_cell BK784.out 1).trans rfl⟩ (fun hHeld => ?_)
          clear hK K
          refine norm_ (a' := ?_) ?_ ?_
          rotate_left
          ·show Act.put _ (some 63) _ = _
           simp only [Act.put, List.setIfInBounds_toArray, List.set_cons_zero, List.set_cons_succ, i64_w, i32_w]
           rfl
          refine one_ (i := 5) (N := some 66) #[true, true, true, true, true, true, false, true, true, true, false] rfl rfl (one_of HT_.out (by kernel_rfl)) (by decide) (fun K hK => ?_)
          refine goes_ Tryd.func33 (by kernel_rfl) rfl #[.agg #[.int .i64 a0_0, .int .i64 a0_1], .agg #[.int .i64 a1_0, .int .i64 a1_1]] (by rfl) rfl rfl agx ?_
          with_reducible refine (money_Max.calls kj65 a0_0 a0_1 a1_0 a1_1 t805 t806 _ A90.out (by first | exact HG0.out | exact Kd.C_below HG0.out blx)).mono ?_
          rintro e w98 ⟨rfl, hb⟩
          refine ⟨_, rfl, ?_⟩
          have n0_ := Aside0.mk (blk_below (g := gb783) (o := .cells #[.int .i64 a0_0, .int .i64 a0_1] 23 (0, 0)) bkx hb)
          have n1_ := Aside0.mk (blk_below (g := gb784) (o := .cells #[.int .i64 a1_0, .int .i64 a1_1] 23 (0, 0)) bkx hb)
          have n2_ := Aside0.mk (blk_below (g := gb788) (o := .cells #[.int .i64 t786, .int .i64 t787] 23 (0, 0)) bkx hb)
          have n3_ := Aside0.mk (below_step blx hb)
          clear BK783
          clear BK784
          clear BK788
          clear HB
          have BK783 := n0_
          have BK784 := n1_
          have BK788 := n2_
          have HB := n3_
          clear n0_ n1_ n2_ n3_
          (try clear hb)
          (try clear hb2)
          (try clear hk)
          (try clear hi)
          refine hK.out _ _ ⟨(blk_cell BK783.out 0).trans rfl, (blk_cell BK783.out 1).trans rfl, (blk_cell BK784.out 0).trans rfl, (blk_cell BK784.out 1).trans rfl⟩ (fun hHeld => ?_)
          clear hK K
          refine norm_ (a' := ?_) ?_ ?_
          rotate_left
          ·show Act.put _ (some 66) _ = _
           simp only [Act.put, List.setIfInBounds_toArray, List.set_cons_zero, List.set_cons_succ, i64_w, i32_w]
           rfl
          refine pure_ (i := 6) (N := some 67) (v := ?_) (a' := ?_) #[true, true, true, true, true, true, true, true, true, true, false] rfl rfl (any_of HT_.out (by kernel_rfl)) (fun _ _ _ h => h) (Or.inl ⟨by rfl, ?_⟩) ?_ ?_
          rotate_left
          ·intro w'
           go_simp
           with_reducible rfl
          rotate_left
          ·simp only [Act.put, List.setIfInBounds_toArray, List.set_cons_zero, List.set_cons_succ, i64_w, i32_w]
           rfl
          refine pure_ (i := 10) (N := some 71) (v := ?_) (a' := ?_) #[true, true, true, true, true, true, true, true, true, true, true] rfl rfl (any_of HT_.out (by kernel_rfl)) (fun _ _ _ h => h) (Or.inl ⟨by rfl, ?_⟩) ?_ ?_
          rotate_left
          ·intro w'
           go_simp
           with_reducible rfl
          rotate_left
          ·simp only [Act.put, List.setIfInBounds_toArray, List.set_cons_zero, List.set_cons_succ, i64_w, i32_w]
           rfl
          refine done_ (done_of HT_.out (by kernel_rfl)) ?_
          try go_wp2
          have n0_ := Aside0.mk (blk_drew BK783.out)
          have n1_ := Aside0.mk (blk_drew BK784.out)
          have n2_ := Aside0.mk (blk_drew BK788.out)
          have n3_ := Aside0.mk (below_drew1 HB.out)
          clear BK783
          clear BK784
          clear BK788
          clear HB
          have BK783 := n0_
          have BK784 := n1_
          have BK788 := n2_
          have HB := n3_
          clear n0_ n1_ n2_ n3_
          refine start_ (n := 11) (S := fun w' => w'.cell? ⟨gb788, 0, none⟩ = some (.int .i64 t786) ∧ w'.cell? ⟨gb788, 1, none⟩ = some (.int .i64 t787)) (ds := []) #[false, false, false, false, false, false, false, false, false, false, false] (by kernel_rfl) rfl rfl ⟨(blk_cell BK788.out 0).trans rfl, (blk_cell BK788.out 1).trans rfl⟩ (fun hHeld => ?_); refine with_tabW levylaw1_MoneyBack.tab10 levylaw1_MoneyBack.bits10 (fun HT_ HW_ => ?_)
          generalize w98.drew = w99 at BK783 BK784 BK788 HB hHeld ⊢
          refine pure_ (i := 0) (N := some 72) (v := ?_) (a' := ?_) #[true, false, false, false, false, false, false, false, false, false, false] rfl rfl (any_of HT_.out (by kernel_rfl)) (fun _ _ _ h => h) (Or.inl ⟨by rfl, ?_⟩) ?_ ?_
          rotate_left
          ·intro w'
           go_simp
           with_reducible rfl
          rotate_left
          ·simp only [Act.put, List.setIfInBounds_toArray, List.set_cons_zero, List.set_cons_succ, i64_w, i32_w]
           rfl
          refine take_ (i := 1) (N := some 73) (v := ?_) (a' := ?_) #[true, true, false, false, false, false, false, false, false, false, false] rfl rfl (take_ofW HT_.out HW_.out (by kernel_rfl)) (fun _ _ _ h => h) (Or.inl ⟨by rfl, ?_⟩) hHeld ?_ ?_
          rotate_left
          ·rintro w' ⟨s0, s1⟩
           go_simp
           with_reducible rfl
          rotate_left
          ·simp only [Act.put, List.setIfInBounds_toArray, List.set_cons_zero, List.set_cons_succ, i64_w, i32_w]
           rfl
          refine pure_ (i := 2) (N := some 74) (v := ?_) (a' := ?_) #[true, true, true, false, false, false, false, false, false, false, false] rfl rfl (any_of HT_.out (by kernel_rfl)) (fun _ _ _ h => h) (Or.inl ⟨by rfl, ?_⟩) ?_ ?_
          rotate_left
          ·intro w'
           go_simp
           with_reducible rfl
          rotate_left
          ·simp only [Act.put, List.setIfInBounds_toArray, List.set_cons_zero, List.set_cons_succ, i64_w, i32_w]
           rfl
          refine pure_ (i := 3) (N := some 75) (v := ?_) (a' := ?_) #[true, true, true, true, false, false, false, false, false, false, false] rfl rfl (any_of HT_.out (by kernel_rfl)) (fun _ _ _ h => h) (Or.inl ⟨by rfl, ?_⟩) ?_ ?_
          rotate_left
          ·intro w'
           go_simp
           with_reducible rfl
          rotate_left
          ·simp only [Act.put, List.setIfInBounds_toArray, List.set_cons_zero, List.set_cons_succ, i64_w, i32_w]
           rfl
          refine pure_ (i := 4) (N := some 76) (v := undef) (a' := ?_) #[true, true, true, true, true, false, false, false, false, false, false] rfl rfl (any_of HT_.out (by kernel_rfl)) (fun _ _ _ h => h) (Or.inr ⟨by rfl, rfl⟩) ?_ ?_
          rotate_left
          ·simp only [Act.put, List.setIfInBounds_toArray, List.set_cons_zero, List.set_cons_succ, i64_w, i32_w]
           rfl
          refine pure_ (i := 5) (N := some 77) (v := undef) (a' := ?_) #[true, true, true, true, true, true, false, false, false, false, false] rfl rfl (any_of HT_.out (by kernel_rfl)) (fun _ _ _ h => h) (Or.inr ⟨by rfl, rfl⟩) ?_ ?_
          rotate_left
          ·simp only [Act.put, List.setIfInBounds_toArray, List.set_cons_zero, List.set_cons_succ, i64_w, i32_w]
           rfl
          refine pure_ (i := 6) (N := some 78) (v := undef) (a' := ?_) #[true, true, true, true, true, true, true, false, false, false, false] rfl rfl (any_of HT_.out (by kernel_rfl)) (fun _ _ _ h => h) (Or.inr ⟨by rfl, rfl⟩) ?_ ?_
          rotate_left
          ·simp only [Act.put, List.setIfInBounds_toArray, List.set_cons_zero, List.set_cons_succ, i64_w, i32_w]
           rfl
          refine pure_ (i := 7) (N := some 79) (v := undef) (a' := ?_) #[true, true, true, true, true, true, true, true, false, false, false] rfl rfl (any_of HT_.out (by kernel_rfl)) (fun _ _ _ h => h) (Or.inr ⟨by rfl, rfl⟩) ?_ ?_
          rotate_left
          ·simp only [Act.put, List.setIfInBounds_toArray, List.set_cons_zero, List.set_cons_succ, i64_w, i32_w]
           rfl
          refine pure_ (i := 8) (N := some 80) (v := undef) (a' := ?_) #[true, true, true, true, true, true, true, true, true, false, false] rfl rfl (any_of HT_.out (by kernel_rfl)) (fun _ _ _ h => h) (Or.inr ⟨by rfl, rfl⟩) ?_ ?_
          rotate_left
          ·simp only [Act.put, List.setIfInBounds_toArray, List.set_cons_zero, List.set_cons_succ, i64_w, i32_w]
           rfl
          refine pure_ (i := 9) (N := some 81) (v := ?_) (a' := ?_) #[true, true, true, true, true, true, true, true, true, true, false] rfl rfl (any_of HT_.out (by kernel_rfl)) (fun _ _ _ h => h) (Or.inl ⟨by rfl, ?_⟩) ?_ ?_
          rotate_left
          ·intro w'
           go_simp
           with_reducible rfl
          rotate_left
          ·simp only [Act.put, List.setIfInBounds_toArray, List.set_cons_zero, List.set_cons_succ, i64_w, i32_w]
           rfl
          refine pure_ (i := 10) (N := some 4) (v := ?_) (a' := ?_) #[true, true, true, true, true, true, true, true, true, true, true] rfl rfl (any_of HT_.out (by kernel_rfl)) (fun _ _ _ h => h) (Or.inl ⟨by rfl, ?_⟩) ?_ ?_
          rotate_left
          ·intro w'
           go_simp
           with_reducible rfl
          rotate_left
          ·simp only [Act.put, List.setIfInBounds_toArray, List.set_cons_zero, List.set_cons_succ, i64_w, i32_w]
           rfl
          refine done_ (done_of HT_.out (by kernel_rfl)) ?_
          try go_wp2
          go_ret
          exact ⟨by first | rfl | (simp [errW_none, errW_some] <;> rfl) | (simp [*, errW_none, errW_some] <;> rfl), blx⟩
         ·rw [if_neg c95] at H
          have c95b0 : (t786 == 6) = false := beq_eq_false_iff_ne.mpr c95
          have c95b1 : (t786 != 6) = true := bne_iff_ne.mpr c95
          replace H := Option.bind_eq_some_iff.mp H
          obtain ⟨⟨t807, t808⟩, A1000, H⟩ := H
          replace H : (some (t807 == a0_0 && (t808 == a0_1))) = some r := H
          have A100 := Aside0.mk A1000
          clear A1000
          obtain rfl := Option.some.inj H
          try go_wp2
          have n0_ := Aside0.mk (blk_drew BK783.out)
          have n1_ := Aside0.mk (blk_drew BK784.out)
          have n2_ := Aside0.mk (blk_drew BK788.out)
          have n3_ := Aside0.mk (below_drew1 HB.out)
          clear BK783
          clear BK784
          clear BK788
          clear HB
          have BK783 := n0_
          have BK784 := n1_
          have BK788 := n2_
          have HB := n3_
          clear n0_ n1_ n2_ n3_
          refine start_ (n := 11) (S := fun w' => w'.cell? ⟨gb783, 0, none⟩ = some (.int .i64 a0_0) ∧ w'.cell? ⟨gb783, 1, none⟩ = some (.int .i64 a0_1) ∧ w'.cell? ⟨gb784, 0, none⟩ = some (.int .i64 a1_0) ∧ w'.cell? ⟨gb784, 1, none⟩ = some (.int .i64 a1_1)) (ds := []) #[false, false, false, false, false, false, false, false, false, false, false] (by kernel_rfl) rfl rfl ⟨(blk_cell BK783.out 0).trans rfl, (blk_cell BK783.out 1).trans rfl, (blk_cell BK784.out 0).trans rfl, (blk_cell BK784.out 1).trans rfl⟩ (fun hHeld => ?_); refine with_tabW levylaw1_MoneyBack.tab8 levylaw1_MoneyBack.bits8 (fun HT_ HW_ => ?_)
          generalize wc.drew = w101 at BK783 BK784 BK788 HB hHeld ⊢
          refine take_ (i := 0) (N := some 61) (v := ?_) (a' := ?_) #[true, false, false, false, false, false, false, false, false, false, false] rfl rfl (take_ofW HT_.out HW_.out (by kernel_rfl)) (fun _ _ _ h => h) (Or.inl ⟨by rfl, ?_⟩) hHeld ?_ ?_
          rotate_left
          ·rintro w' ⟨s0, s1, s2, s3⟩
           go_simp
           with_reducible rfl
          rotate_left
          ·simp only [Act.put, List.setIfInBounds_toArray, List.set_cons_zero, List.set_cons_succ, i64_w, i32_w]
           rfl
          refine take_ (i := 1) (N := some 62) (v := ?_) (a' := ?_) #[true, true, false, false, false, false, false, false, false, false, false] rfl rfl (take_ofW HT_.out HW_.out (by kernel_rfl)) (fun _ _ _ h => h) (Or.inl ⟨by rfl, ?_⟩) hHeld ?_ ?_
          rotate_left
          ·rintro w' ⟨s0, s1, s2, s3⟩
           go_simp
           with_reducible rfl
          rotate_left
          ·simp only [Act.put, List.setIfInBounds_toArray, List.set_cons_zero, List.set_cons_succ, i64_w, i32_w]
           rfl
          refine take_ (i := 3) (N := some 64) (v := ?_) (a' := ?_) #[true, true, false, true, false, false, false, false, false, false, false] rfl rfl (take_ofW HT_.out HW_.out (by kernel_rfl)) (fun _ _ _ h => h) (Or.inl ⟨by rfl, ?_⟩) hHeld ?_ ?_
          rotate_left
          ·rintro w' ⟨s0, s1, s2, s3⟩
           go_simp
           with_reducible rfl
          rotate_left
          ·simp only [Act.put, List.setIfInBounds_toArray, List.set_cons_zero, List.set_cons_succ, i64_w, i32_w]
           rfl
          refine take_ (i := 4) (N := some 65) (v := ?_) (a' := ?_) #[true, true, false, true, true, false, false, false, false, false, false] rfl rfl (take_ofW HT_.out HW_.out (by kernel_rfl)) (fun _ _ _ h => h) (Or.inl ⟨by rfl, ?_⟩) hHeld ?_ ?_
          rotate_left
          ·rintro w' ⟨s0, s1, s2, s3⟩
           go_simp
           with_reducible rfl
          rotate_left
          ·simp only [Act.put, List.setIfInBounds_toArray, List.set_cons_zero, List.set_cons_succ, i64_w, i32_w]
           rfl
          refine take_ (i := 7) (N := some 68) (v := ?_) (a' := ?_) #[true, true, false, true, true, false, false, true, false, false, false] rfl rfl (take_ofW HT_.out HW_.out (by kernel_rfl)) (fun _ _ _ h => h) (Or.inl ⟨by rfl, ?_⟩) hHeld ?_ ?_
          rotate_left
          ·rintro w' ⟨s0, s1, s2, s3⟩
           go_simp
           with_reducible rfl
          rotate_left
          ·simp only [Act.put, List.setIfInBounds_toArray, List.set_cons_zero, List.set_cons_succ, i64_w, i32_w]
           rfl
          refine take_ (i := 8) (N := some 69) (v := ?_) (a' := ?_) #[true, true, false, true, true, false, false, true, true, false, false] rfl rfl (take_ofW HT_.out HW_.out (by kernel_rfl)) (fun _ _ _ h => h) (Or.inl ⟨by rfl, ?_⟩) hHeld ?_ ?_
          rotate_left
          ·rintro w' ⟨s0, s1, s2, s3⟩
           go_simp
           with_reducible rfl
          rotate_left
          ·simp only [Act.put, List.setIfInBounds_toArray, List.set_cons_zero, List.set_cons_succ, i64_w, i32_w]
           rfl
          refine pure_ (i := 9) (N := some 70) (v := ?_) (a' := ?_) #[true, true, false, true, true, false, false, true, true, true, false] rfl rfl (any_of HT_.out (by kernel_rfl)) (fun _ _ _ h => h) (Or.inl ⟨by rfl, ?_⟩) ?_ ?_
          rotate_left
          ·intro w'
           go_simp
           with_reducible rfl
          rotate_left
          ·simp only [Act.put, List.setIfInBounds_toArray, List.set_cons_zero, List.set_cons_succ, i64_w, i32_w]
           rfl
          refine one_ (i := 2) (N := some 63) #[true, true, true, true, true, false, false, true, true, true, false] rfl rfl (one_of HT_.out (by kernel_rfl)) (by decide) (fun K hK => ?_)
          refine goes_ Tryd.func31 (by kernel_rfl) rfl #[.agg #[.int .i64 a0_0, .int .i64 a0_1], .agg #[.int .i64 a1_0, .int .i64 a1_1]] (by rfl) rfl rfl agx ?_
          with_reducible refine (money_Min.calls kj65 a0_0 a0_1 a1_0 a1_1 t803 t804 _ A89.out (by first | exact HG0.out | exact Kd.C_below HG0.out blx)).mono ?_
          rintro e w102 ⟨rfl, hb⟩
          refine ⟨_, rfl, ?_⟩
          have n0_ := Aside0.mk (blk_below (g := gb783) (o := .cells #[.int .i64 a0_0, .int .i64 a0_1] 23 (0, 0)) bkx hb)
          have n1_ := Aside0.mk (blk_below (g := gb784) (o := .cells #[.int .i64 a1_0, .int .i64 a1_1] 23 (0, 0)) bkx hb)
          have n2_ := Aside0.mk (blk_below (g := gb788) (o := .cells #[.int .i64 t786, .int .i64 t787] 23 (0, 0)) bkx hb)
          have n3_ := Aside0.mk (below_step blx hb)
          clear BK783
          clear BK784
          clear BK788
          clear HB
          have BK783 := n0_
          have BK784 := n1_
          have BK788 := n2_
          have HB := n3_
          clear n0_ n1_ n2_ n3_
          (try clear hb)
          (try clear hb2)
          (try clear hk)
          (try clear hi)
          refine hK.out _ _ ⟨(blk_cell BK783.out 0).trans rfl, (blk_cell BK783.out 1).trans rfl, (blk_cell BK784.out 0).trans rfl, (blk_cell BK784.out 1).trans rfl⟩ (fun hHeld => ?_)
          clear hK K
          refine norm_ (a' := ?_) ?_ ?_
          rotate_left
          ·show Act.put _ (some 63) _ = _
           simp only [Act.put, List.setIfInBounds_toArray, List.set_cons_zero, List.set_cons_succ, i64_w, i32_w]
           rfl
          refine one_ (i := 5) (N := some 66) #[true, true, true, true, true, true, false, true, true, true, false] rfl rfl (one_of HT_.out (by kernel_rfl)) (by decide) (fun K hK => ?_)
          refine goes_ Tryd.func33 (by kernel_rfl) rfl #[.agg #[.int .i64 a0_0, .int .i64 a0_1], .agg #[.int .i64 a1_0, .int .i64 a1_1]] (by rfl) rfl rfl agx ?_
          with_reducible refine (money_Max.calls kj65 a0_0 a0_1 a1_0 a1_1 t805 t806 _ A90.out (by first | exact HG0.out | exact Kd.C_below HG0.out blx)).mono ?_
          rintro e w103 ⟨rfl, hb⟩
          refine ⟨_, rfl, ?_⟩
          have n0_ := Aside0.mk (blk_below (g := gb783) (o := .cells #[.int .i64 a0_0, .int .i64 a0_1] 23 (0, 0)) bkx hb)
          have n1_ := Aside0.mk (blk_below (g := gb784) (o := .cells #[.int .i64 a1_0, .int .i64 a1_1] 23 (0, 0)) bkx hb)
          have n2_ := Aside0.mk (blk_below (g := gb788) (o := .cells #[.int .i64 t786, .int .i64 t787] 23 (0, 0)) bkx hb)
          have n3_ := Aside0.mk (below_step blx hb)
          clear BK783
          clear BK784
          clear BK788
          clear HB
          have BK783 := n0_
          have BK784 := n1_
          have BK788 := n2_
          have HB := n3_
          clear n0_ n1_ n2_ n3_
          (try clear hb)
          (try clear hb2)
          (try clear hk)
          (try clear hi)
          refine hK.out _ _ ⟨(blk_cell BK783.out 0).trans rfl, (blk_cell BK783.out 1).trans rfl, (blk_cell BK784.out 0).trans rfl, (blk_cell BK784.out 1).trans rfl⟩ (fun hHeld => ?_)
          clear hK K
          refine norm_ (a' := ?_) ?_ ?_
          rotate_left
          ·show Act.put _ (some 66) _ = _
           simp only [Act.put, List.setIfInBounds_toArray, List.set_cons_zero, List.set_cons_succ, i64_w, i32_w]
           rfl
          refine pure_ (i := 6) (N := some 67) (v := ?_) (a' := ?_) #[true, true, true, true, true, true, true, true, true, true, false] rfl rfl (any_of HT_.out (by kernel_rfl)) (fun _ _ _ h => h) (Or.inl ⟨by rfl, ?_⟩) ?_ ?_
          rotate_left
          ·intro w'
           go_simp
           with_reducible rfl
          rotate_left
          ·simp only [Act.put, List.setIfInBounds_toArray, List.set_cons_zero, List.set_cons_succ, i64_w, i32_w]
           rfl
          refine pure_ (i := 10) (N := some 71) (v := ?_) (a' := ?_) #[true, true, true, true, true, true, true, true, true, true, true] rfl rfl (any_of HT_.out (by kernel_rfl)) (fun _ _ _ h => h) (Or.inl ⟨by rfl, ?_⟩) ?_ ?_
          rotate_left
          ·intro w'
           go_simp
           with_reducible rfl
          rotate_left
          ·simp only [Act.put, List.setIfInBounds_toArray, List.set_cons_zero, List.set_cons_succ, i64_w, i32_w]
           rfl
          refine done_ (done_of HT_.out (by kernel_rfl)) ?_
          try go_wp2
          have n0_ := Aside0.mk (blk_drew BK783.out)
          have n1_ := Aside0.mk (blk_drew BK784.out)
          have n2_ := Aside0.mk (blk_drew BK788.out)
          have n3_ := Aside0.mk (below_drew1 HB.out)
          clear BK783
          clear BK784
          clear BK788
          clear HB
          have BK783 := n0_
          have BK784 := n1_
          have BK788 := n2_
          have HB := n3_
          clear n0_ n1_ n2_ n3_
          refine start_ (n := 11) (S := fun w' => w'.cell? ⟨gb788, 0, none⟩ = some (.int .i64 t786) ∧ w'.cell? ⟨gb788, 1, none⟩ = some (.int .i64 t787) ∧ w'.cell? ⟨gb784, 0, none⟩ = some (.int .i64 a1_0) ∧ w'.cell? ⟨gb784, 1, none⟩ = some (.int .i64 a1_1) ∧ w'.cell? ⟨gb783, 0, none⟩ = some (.int .i64 a0_0) ∧ w'.cell? ⟨gb783, 1, none⟩ = some (.int .i64 a0_1)) (ds := []) #[false, false, false, false, false, false, false, false, false, false, false] (by kernel_rfl) rfl rfl ⟨(blk_cell BK788.out 0).trans rfl, (blk_cell BK788.out 1).trans rfl, (blk_cell BK784.out 0).trans rfl, (blk_cell BK784.out 1).trans rfl, (blk_cell BK783.out 0).trans rfl, (blk_cell BK783.out 1).trans rfl⟩ (fun hHeld => ?_); refine with_tabW levylaw1_MoneyBack.tab10 levylaw1_MoneyBack.bits10 (fun HT_ HW_ => ?_)
          generalize w103.drew = w104 at BK783 BK784 BK788 HB hHeld ⊢
          refine pure_ (i := 0) (N := some 72) (v := ?_) (a' := ?_) #[true, false, false, false, false, false, false, false, false, false, false] rfl rfl (any_of HT_.out (by kernel_rfl)) (fun _ _ _ h => h) (Or.inl ⟨by rfl, ?_⟩) ?_ ?_
          rotate_left
          ·intro w'
           go_simp
           with_reducible rfl
          rotate_left
          ·simp only [Act.put, List.setIfInBounds_toArray, List.set_cons_zero, List.set_cons_succ, i64_w, i32_w]
           rfl
          refine take_ (i := 1) (N := some 73) (v := ?_) (a' := ?_) #[true, true, false, false, false, false, false, false, false, false, false] rfl rfl (take_ofW HT_.out HW_.out (by kernel_rfl)) (fun _ _ _ h => h) (Or.inl ⟨by rfl, ?_⟩) hHeld ?_ ?_
          rotate_left
          ·rintro w' ⟨s0, s1, s2, s3, s4, s5⟩
           go_simp
           with_reducible rfl
          rotate_left
          ·simp only [Act.put, List.setIfInBounds_toArray, List.set_cons_zero, List.set_cons_succ, i64_w, i32_w]
           rfl
          refine pure_ (i := 2) (N := some 74) (v := ?_) (a' := ?_) #[true, true, true, false, false, false, false, false, false, false, false] rfl rfl (any_of HT_.out (by kernel_rfl)) (fun _ _ _ h => h) (Or.inl ⟨by rfl, ?_⟩) ?_ ?_
          rotate_left
          ·intro w'
           go_simp
           with_reducible rfl
          rotate_left
          ·simp only [Act.put, List.setIfInBounds_toArray, List.set_cons_zero, List.set_cons_succ, i64_w, i32_w]
           rfl
          refine pure_ (i := 3) (N := some 75) (v := ?_) (a' := ?_) #[true, true, true, true, false, false, false, false, false, false, false] rfl rfl (any_of HT_.out (by kernel_rfl)) (fun _ _ _ h => h) (Or.inl ⟨by rfl, ?_⟩) ?_ ?_
          rotate_left
          ·intro w'
           go_simp
           with_reducible rfl
          rotate_left
          ·simp only [Act.put, List.setIfInBounds_toArray, List.set_cons_zero, List.set_cons_succ, i64_w, i32_w]
           rfl
          refine take_ (i := 4) (N := some 76) (v := ?_) (a' := ?_) #[true, true, true, true, true, false, false, false, false, false, false] rfl rfl (take_ofW HT_.out HW_.out (by kernel_rfl)) (fun _ _ _ h => h) (Or.inl ⟨by rfl, ?_⟩) hHeld ?_ ?_
          rotate_left
          ·rintro w' ⟨s0, s1, s2, s3, s4, s5⟩
           go_simp
           with_reducible rfl
          rotate_left
          ·simp only [Act.put, List.setIfInBounds_toArray, List.set_cons_zero, List.set_cons_succ, i64_w, i32_w]
           rfl
          refine take_ (i := 5) (N := some 77) (v := ?_) (a' := ?_) #[true, true, true, true, true, true, false, false, false, false, false] rfl rfl (take_ofW HT_.out HW_.out (by kernel_rfl)) (fun _ _ _ h => h) (Or.inl ⟨by rfl, ?_⟩) hHeld ?_ ?_
          rotate_left
          ·rintro w' ⟨s0, s1, s2, s3, s4, s5⟩
           go_simp
           with_reducible rfl
          rotate_left
          ·simp only [Act.put, List.setIfInBounds_toArray, List.set_cons_zero, List.set_cons_succ, i64_w, i32_w]
           rfl
          refine take_ (i := 7) (N := some 79) (v := ?_) (a' := ?_) #[true, true, true, true, true, true, false, true, false, false, false] rfl rfl (take_ofW HT_.out HW_.out (by kernel_rfl)) (fun _ _ _ h => h) (Or.inl ⟨by rfl, ?_⟩) hHeld ?_ ?_
          rotate_left
          ·rintro w' ⟨s0, s1, s2, s3, s4, s5⟩
           go_simp
           with_reducible rfl
          rotate_left
          ·simp only [Act.put, List.setIfInBounds_toArray, List.set_cons_zero, List.set_cons_succ, i64_w, i32_w]
           rfl
          refine one_ (i := 6) (N := some 78) #[true, true, true, true, true, true, true, true, false, false, false] rfl rfl (one_of HT_.out (by kernel_rfl)) (by decide) (fun K hK => ?_)
          refine goes_ Tryd.func25 (by kernel_rfl) rfl #[.agg #[.int .i64 t786, .int .i64 t787], .agg #[.int .i64 a1_0, .int .i64 a1_1]] (by rfl) rfl rfl agx ?_
          with_reducible refine (money_Sub.calls kj65 t786 t787 a1_0 a1_1 t807 t808 _ A100.out (by first | exact HG0.out | exact Kd.C_below HG0.out blx)).mono ?_
          rintro e w105 ⟨rfl, hb⟩
          refine ⟨_, rfl, ?_⟩
          have n0_ := Aside0.mk (blk_below (g := gb783) (o := .cells #[.int .i64 a0_0, .int .i64 a0_1] 23 (0, 0)) bkx hb)
          have n1_ := Aside0.mk (blk_below (g := gb784) (o := .cells #[.int .i64 a1_0, .int .i64 a1_1] 23 (0, 0)) bkx hb)
          have n2_ := Aside0.mk (blk_below (g := gb788) (o := .cells #[.int .i64 t786, .int .i64 t787] 23 (0, 0)) bkx hb)
          have n3_ := Aside0.mk (below_step blx hb)
          clear BK783
          clear BK784
          clear BK788
          clear HB
          have BK783 := n0_
          have BK784 := n1_
          have BK788 := n2_
          have HB := n3_
          clear n0_ n1_ n2_ n3_
          (try clear hb)
          (try clear hb2)
          (try clear hk)
          (try clear hi)
          refine hK.out _ _ ⟨(blk_cell BK788.out 0).trans rfl, (blk_cell BK788.out 1).trans rfl, (blk_cell BK784.out 0).trans rfl, (blk_cell BK784.out 1).trans rfl, (blk_cell BK783.out 0).trans rfl, (blk_cell BK783.out 1).trans rfl⟩ (fun hHeld => ?_)
          clear hK K
          refine norm_ (a' := ?_) ?_ ?_
          rotate_left
          ·show Act.put _ (some 78) _ = _
           simp only [Act.put, List.setIfInBounds_toArray, List.set_cons_zero, List.set_cons_succ, i64_w, i32_w]
           rfl
          refine pure_ (i := 8) (N := some 80) (v := ?_) (a' := ?_) #[true, true, true, true, true, true, true, true, true, false, false] rfl rfl (any_of HT_.out (by kernel_rfl)) (fun _ _ _ h => h) (Or.inl ⟨by rfl, ?_⟩) ?_ ?_
          rotate_left
          ·intro w'
           go_simp
           with_reducible rfl
          rotate_left
          ·simp only [Act.put, List.setIfInBounds_toArray, List.set_cons_zero, List.set_cons_succ, i64_w, i32_w]
           rfl
          refine pure_ (i := 9) (N := some 81) (v := ?_) (a' := ?_) #[true, true, true, true, true, true, true, true, true, true, false] rfl rfl (any_of HT_.out (by kernel_rfl)) (fun _ _ _ h => h) (Or.inl ⟨by rfl, ?_⟩) ?_ ?_
          rotate_left
          ·intro w'
           go_simp
           with_reducible rfl
          rotate_left
          ·simp only [Act.put, List.setIfInBounds_toArray, List.set_cons_zero, List.set_cons_succ, i64_w, i32_w]
           rfl
          refine pure_ (i := 10) (N := some 4) (v := ?_) (a' := ?_) #[true, true, true, true, true, true, true, true, true, true, true] rfl rfl (any_of HT_.out (by kernel_rfl)) (fun _ _ _ h => h) (Or.inl ⟨by rfl, ?_⟩) ?_ ?_
          rotate_left
          ·intro w'
           go_simp
           with_reducible rfl
          rotate_left
          ·simp only [Act.put, List.setIfInBounds_toArray, List.set_cons_zero, List.set_cons_succ, i64_w, i32_w]
           rfl
          refine done_ (done_of HT_.out (by kernel_rfl)) ?_
          try go_wp2
          go_ret
          exact ⟨by first | rfl | (simp [errW_none, errW_some] <;> rfl) | (simp [*, errW_none, errW_some] <;> rfl), blx⟩
 ·replace c4 := Bool.eq_false_iff.mpr c4
  subst c4
  have H1 : (some false) = some r := by rw [if_neg (show ¬ (false = true) by decide)] at H; exact H
  clear H
  have H := H1
  clear H1
  obtain rfl := Option.some.inj H
  go_enter Tryd.func15, Tryd.ntmps15
  go_wp2_with (first | ((with_reducible refine gate_dst (N := 2) rfl ?_); refine box_event ?hg (N := 2) ?hd (cs := #[.int .i64 a0_0, .int .i64 a0_1]) (t := 23) ?hr ?_; (case hd => rfl); (case hg => rfl); (case hr => first | (go_simp; done) | (go_simp; rfl)); intro gb783 hg w106 hbox hb; have n0_ := Aside0.mk (below_step blx hb); have n1_ := Aside0.mk (hbox); have n2_ := Aside0.mk ((by rw [hg]; exact (below_size blx) : w.heap.size ≤ gb783)); have n3_ := Aside0.mk ((by rw [hg]; exact (below_size blx) : w.heap.size ≤ gb783)); clear HB; have HB := n0_; have BK783 := n1_; have GW783 := n2_; have GE783 := n3_; clear n0_ n1_ n2_ n3_; clear hb hbox hg) | ((with_reducible refine gate_dst (N := 3) rfl ?_); refine box_event ?hg (N := 3) ?hd (cs := #[.int .i64 a1_0, .int .i64 a1_1]) (t := 23) ?hr ?_; (case hd => rfl); (case hg => rfl); (case hr => first | (go_simp; done) | (go_simp; rfl)); intro gb784 hg w107 hbox hb; have n0_ := Aside0.mk (blk_below (g := gb783) (o := .cells #[.int .i64 a0_0, .int .i64 a0_1] 23 (0, 0)) bkx hb); have n1_ := Aside0.mk (below_step blx hb); have n2_ := Aside0.mk (hbox); have n3_ := Aside0.mk ((by rw [hg]; exact (below_size blx) : w.heap.size ≤ gb784)); have n4_ := Aside0.mk ((by rw [hg]; exact (below_size blx) : w.heap.size ≤ gb784)); have n5_ := Aside0.mk ((by rw [hg]; exact Nat.ne_of_lt (blk_lt (g := gb783) (o := .cells #[.int .i64 a0_0, .int .i64 a0_1] 23 (0, 0)) bkx) : gb783 ≠ gb784)); have n6_ := Aside0.mk ((by rw [hg]; exact Nat.ne_of_gt (blk_lt (g := gb783) (o := .cells #[.int .i64 a0_0, .int .i64 a0_1] 23 (0, 0)) bkx) : gb784 ≠ gb783)); clear BK783; clear HB; have BK783 := n0_; have HB := n1_; have BK784 := n2_; have GW784 := n3_; have GE784 := n4_; have NB783_784 := n5_; have NB784_783 := n6_; clear n0_ n1_ n2_ n3_ n4_ n5_ n6_; clear hb hbox hg) | ((with_reducible refine gate_callee (f := 51) rfl ?_); refine goesL_ (some 6) rfl rfl Tryd.func51 (by kernel_rfl) rfl #[] rfl agx ?_; (with_reducible refine (levylaw1_known.calls k  false _ A3.out (by first | exact HG0.out | exact Kd.C_below HG0.out blx)).mono ?_); rintro e w108 ⟨rfl, hb⟩; refine ⟨_, rfl, ?_⟩; have n0_ := Aside0.mk (blk_below (g := gb783) (o := .cells #[.int .i64 a0_0, .int .i64 a0_1] 23 (0, 0)) bkx hb); have n1_ := Aside0.mk (blk_below (g := gb784) (o := .cells #[.int .i64 a1_0, .int .i64 a1_1] 23 (0, 0)) bkx hb); have n2_ := Aside0.mk (below_step blx hb); clear BK783; clear BK784; clear HB; have BK783 := n0_; have BK784 := n1_; have HB := n2_; clear n0_ n1_ n2_; (try clear hb); (try clear hb2); (try clear hk); (try clear hi)))
  go_ret
  exact ⟨by first | rfl | (simp [errW_none, errW_some] <;> rfl) | (simp [*, errW_none, errW_some] <;> rfl), blx⟩

end Go.Proofs.YtnjhjaifmgjljaaDoor.PM
