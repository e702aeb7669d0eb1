-- Written by a program of this session's (wip/tools/myprint.py): a function's plain form and its contract.
import Derived.Test.YtnjhjaifmgjljaaDoorPMx0
import Derived.Test.YtnjhjaifmgjljaaDoorPMx1
import Derived.Test.YtnjhjaifmgjljaaDoorPMx2
import Derived.Test.YtnjhjaifmgjljaaDoorPMx62
import Derived.Test.YtnjhjaifmgjljaaDoorPMx63
import Derived.Test.YtnjhjaifmgjljaaDoorPMx64
import Derived.Test.YtnjhjaifmgjljaaDoorPMx66
namespace Go.Proofs.YtnjhjaifmgjljaaDoor.PM
open Go.RowKit Go.Proofs.YtnjhjaifmgjljaaDoorW.PrintWords Go.Proofs.YtnjhjaifmgjljaaDoorW.PrintLast Go.Proofs.YtnjhjaifmgjljaaDoorW.PrintMore
attribute [local go_sem] max2_int min2_int max_two min_two max_three min_three max_four min_four   -- for this text's walks alone
set_option linter.unusedVariables false
set_option linter.unusedSimpArgs false

attribute [local go_sem high] eqA23
/-! ### levylaw1_MoneyBands: function 14 -/
mutual
def levylaw1_MoneyBands.j0 : Nat → Int → Int → List (S72) → Bool → Int → Int → Option (Bool)
 | 0, _, _, _, _, _, _ => none
 | k + 1, x1, x3, x9, x73, x760000, x760001 => if x73 = true then (some false) else (if (x9.length : Int) > 7 then (some true) else (levylaw1_MoneyBands.l0 k x1 x9 (wrap64 (1 + (Int.tmod (wrap64 ((Int.tmod x3 9000000000) + 9000000000)) 9000000000))) ([] : List (S72)) 0 x760000 x760001))
def levylaw1_MoneyBands.l0 : Nat → Int → List (S72) → Int → List (S72) → Int → Int → Int → Option (Bool)
 | 0, _, _, _, _, _, _, _ => none
 | k + 1, x1, x9, x12, x13, x14, x760000, x760001 => if x14 < (x9.length : Int) then (if 0 ≤ x14 then (if x13.length < 8796093022208 then ((some (x13 ++ [(⟨(rd_T72 x9 x14).f0, (rd_T72 x9 x14).f1⟩ : S72)] : List (S72))).bind fun y766 => (if x12 > ((rd_T72 x9 x14).f0) then (if (wrap64 (x14 + 1)) = (x9.length : Int) then (if y766.length < 8796093022208 then (levylaw1_MoneyBands.l0 k x1 x9 x12 (y766 ++ [(⟨x12, (rd_T72 x9 x14).f1⟩ : S72)]) (wrap64 (x14 + 1)) x760000 x760001) else (none)) else (if 0 ≤ (wrap64 (x14 + 1)) then (if (wrap64 (x14 + 1)) < (x9.length : Int) then (if x12 < ((rd_T72 x9 (wrap64 (x14 + 1))).f0) then (if y766.length < 8796093022208 then (levylaw1_MoneyBands.l0 k x1 x9 x12 (y766 ++ [(⟨x12, (rd_T72 x9 x14).f1⟩ : S72)]) (wrap64 (x14 + 1)) x760000 x760001) else (none)) else (levylaw1_MoneyBands.l0 k x1 x9 x12 y766 (wrap64 (x14 + 1)) x760000 x760001)) else (none)) else (none))) else (levylaw1_MoneyBands.l0 k x1 x9 x12 y766 (wrap64 (x14 + 1)) x760000 x760001))) else (none)) else (none)) else ((levylaw1_c.f x1).bind fun bt779 => ((money_Bracket.f k x13 bt779.1 bt779.2).bind fun bt781 => (some (bt781.1 == x760000 && (bt781.2 == x760001)))))
end
def levylaw1_MoneyBands.f (k : Nat) (l0 : List (S72)) (a1 : Int) (a2 : Int) (a3 : Int) : Option (Bool) := (levylaw1_known.f k).bind fun t751 => (if t751 = true then ((levylaw1_right.f k l0).bind fun t752 => ((levylaw1_c.f (Int.tmod (wrap64 ((Int.tmod a1 9000000000) + 9000000000)) 9000000000)).bind fun bt755 => ((money_Bracket.f k t752 bt755.1 bt755.2).bind fun bt757 => ((levylaw1_c.f (wrap64 ((Int.tmod (wrap64 ((Int.tmod a1 9000000000) + 9000000000)) 9000000000) + (Int.tmod (wrap64 ((Int.tmod a2 9000000000) + 9000000000)) 9000000000)))).bind fun bt760 => ((money_Bracket.f k t752 bt760.1 bt760.2).bind fun bt762 => (if bt757.1 = 1 then (if bt762.1 = 1 then (if bt757.2 < 0 then (levylaw1_MoneyBands.j0 k (Int.tmod (wrap64 ((Int.tmod a1 9000000000) + 9000000000)) 9000000000) a3 t752 true bt757.1 bt757.2) else (if bt757.2 > (Int.tmod (wrap64 ((Int.tmod a1 9000000000) + 9000000000)) 9000000000) then (levylaw1_MoneyBands.j0 k (Int.tmod (wrap64 ((Int.tmod a1 9000000000) + 9000000000)) 9000000000) a3 t752 true bt757.1 bt757.2) else (if bt762.2 < bt757.2 then (levylaw1_MoneyBands.j0 k (Int.tmod (wrap64 ((Int.tmod a1 9000000000) + 9000000000)) 9000000000) a3 t752 true bt757.1 bt757.2) else (levylaw1_MoneyBands.j0 k (Int.tmod (wrap64 ((Int.tmod a1 9000000000) + 9000000000)) 9000000000) a3 t752 (decide (bt762.2 > (wrap64 ((wrap64 (bt757.2 + (Int.tmod (wrap64 ((Int.tmod a2 9000000000) + 9000000000)) 9000000000))) + 1)))) bt757.1 bt757.2)))) else (levylaw1_MoneyBands.j0 k (Int.tmod (wrap64 ((Int.tmod a1 9000000000) + 9000000000)) 9000000000) a3 t752 true bt757.1 bt757.2)) else (levylaw1_MoneyBands.j0 k (Int.tmod (wrap64 ((Int.tmod a1 9000000000) + 9000000000)) 9000000000) a3 t752 true bt757.1 bt757.2))))))) else (some false))
theorem levylaw1_MoneyBands.mono_l : ∀ k, (∀ y0 y1 y2 y3 y4 y5, LeO (levylaw1_MoneyBands.j0 k y0 y1 y2 y3 y4 y5) (levylaw1_MoneyBands.j0 (k + 1) y0 y1 y2 y3 y4 y5)) ∧ (∀ y0 y1 y2 y3 y4 y5 y6, LeO (levylaw1_MoneyBands.l0 k y0 y1 y2 y3 y4 y5 y6) (levylaw1_MoneyBands.l0 (k + 1) y0 y1 y2 y3 y4 y5 y6))
 | 0 => ⟨fun _ _ _ _ _ _ r h => by simp [levylaw1_MoneyBands.j0] at h, fun _ _ _ _ _ _ _ r h => by simp [levylaw1_MoneyBands.l0] at h⟩
 | k + 1 => by
  obtain ⟨ih0, ih1⟩ := levylaw1_MoneyBands.mono_l k
  refine ⟨?_, ?_⟩
  ·intro y0 y1 y2 y3 y4 y5
   unfold levylaw1_MoneyBands.j0
   repeat' first
   | (with_reducible exact ih0 _ _ _ _ _ _)
   | (with_reducible exact ih1 _ _ _ _ _ _ _)
   | (with_reducible exact levylaw1_known.mono _)
   | (with_reducible exact levylaw1_right.mono _ _)
   | (with_reducible exact money_Bracket.mono _ _ _ _)
   | (with_reducible exact LeO.refl _)
   | (with_reducible exact LeO.none _)
   | (with_reducible refine LeO.ite ?_ ?_)
   | (with_reducible refine LeO.bind ?_ (fun _ => ?_))
   | exact ih0 _ _ _ _ _ _
   | exact ih1 _ _ _ _ _ _ _
   | exact levylaw1_known.mono _
   | exact levylaw1_right.mono _ _
   | exact money_Bracket.mono _ _ _ _
   | exact LeO.none _
   | refine LeO.ite ?_ ?_
   | refine LeO.bind ?_ (fun _ => ?_)
  ·intro y0 y1 y2 y3 y4 y5 y6
   unfold levylaw1_MoneyBands.l0
   repeat' first
   | (with_reducible exact ih0 _ _ _ _ _ _)
   | (with_reducible exact ih1 _ _ _ _ _ _ _)
   | (with_reducible exact levylaw1_known.mono _)
   | (with_reducible exact levylaw1_right.mono _ _)
   | (with_reducible exact money_Bracket.mono _ _ _ _)
   | (with_reducible exact LeO.refl _)
   | (with_reducible exact LeO.none _)
   | (with_reducible refine LeO.ite ?_ ?_)
   | (with_reducible refine LeO.bind ?_ (fun _ => ?_))
   | exact ih0 _ _ _ _ _ _
   | exact ih1 _ _ _ _ _ _ _
   | exact levylaw1_known.mono _
   | exact levylaw1_right.mono _ _
   | exact money_Bracket.mono _ _ _ _
   | exact LeO.none _
   | refine LeO.ite ?_ ?_
   | refine LeO.bind ?_ (fun _ => ?_)
theorem levylaw1_MoneyBands.mono : ∀ a0 a1 a2 a3 k, LeO (levylaw1_MoneyBands.f k a0 a1 a2 a3) (levylaw1_MoneyBands.f (k + 1) a0 a1 a2 a3) := by
 intro a0 a1 a2 a3 k
 obtain ⟨ih0, ih1⟩ := levylaw1_MoneyBands.mono_l k
 unfold levylaw1_MoneyBands.f
 repeat' first
   | (with_reducible exact ih0 _ _ _ _ _ _)
   | (with_reducible exact ih1 _ _ _ _ _ _ _)
   | (with_reducible exact levylaw1_known.mono _)
   | (with_reducible exact levylaw1_right.mono _ _)
   | (with_reducible exact money_Bracket.mono _ _ _ _)
   | (with_reducible exact LeO.refl _)
   | (with_reducible exact LeO.none _)
   | (with_reducible refine LeO.ite ?_ ?_)
   | (with_reducible refine LeO.bind ?_ (fun _ => ?_))
   | exact ih0 _ _ _ _ _ _
   | exact ih1 _ _ _ _ _ _ _
   | exact levylaw1_known.mono _
   | exact levylaw1_right.mono _ _
   | exact money_Bracket.mono _ _ _ _
   | exact LeO.none _
   | refine LeO.ite ?_ ?_
   | refine LeO.bind ?_ (fun _ => ?_)
set_option maxHeartbeats 8000000 in
set_option maxRecDepth 100000 in
theorem levylaw1_MoneyBands.calls (k : Nat) (A0 : Option Addr) (c0 : Nat) (l0 : List (S72)) (a1 : Int) (a2 : Int) (a3 : Int) (r : Bool) (w : World) (hr0 : Kd.C k72 w A0 l0.length l0) (hc0 : l0.length ≤ c0) (h : levylaw1_MoneyBands.f k l0 a1 a2 a3 = some r) (hg0 : Kd.C k87 w (some ⟨0, 0, none⟩) gtab0.length gtab0) :
  Calls Tryd.prog 14 #[.slice A0 l0.length c0, .int .i64 a1, .int .i64 a2, .int .i64 a3] w fun e w' => e = .returned (.bool r) ∧ Below w.heap.size w w' := by
 have HG0 := Aside0.mk hg0
 clear hg0
 have hu23 := Tryd.underlying23
 have hu72 := Tryd.underlying72
 have HR0 := Aside0.mk hr0
 have HC0 := Aside0.mk hc0
 clear hr0 hc0
 have HB := Aside0.mk (Below.refl w.heap.size w)
 have H : ((levylaw1_known.f k).bind fun t751 => (if t751 = true then ((levylaw1_right.f k l0).bind fun t752 => ((levylaw1_c.f (Int.tmod (wrap64 ((Int.tmod a1 9000000000) + 9000000000)) 9000000000)).bind fun bt755 => ((money_Bracket.f k t752 bt755.1 bt755.2).bind fun bt757 => ((levylaw1_c.f (wrap64 ((Int.tmod (wrap64 ((Int.tmod a1 9000000000) + 9000000000)) 9000000000) + (Int.tmod (wrap64 ((Int.tmod a2 9000000000) + 9000000000)) 9000000000)))).bind fun bt760 => ((money_Bracket.f k t752 bt760.1 bt760.2).bind fun bt762 => (if bt757.1 = 1 then (if bt762.1 = 1 then (if bt757.2 < 0 then (levylaw1_MoneyBands.j0 k (Int.tmod (wrap64 ((Int.tmod a1 9000000000) + 9000000000)) 9000000000) a3 t752 true bt757.1 bt757.2) else (if bt757.2 > (Int.tmod (wrap64 ((Int.tmod a1 9000000000) + 9000000000)) 9000000000) then (levylaw1_MoneyBands.j0 k (Int.tmod (wrap64 ((Int.tmod a1 9000000000) + 9000000000)) 9000000000) a3 t752 true bt757.1 bt757.2) else (if bt762.2 < bt757.2 then (levylaw1_MoneyBands.j0 k (Int.tmod (wrap64 ((Int.tmod a1 9000000000) + 9000000000)) 9000000000) a3 t752 true bt757.1 bt757.2) else (levylaw1_MoneyBands.j0 k (Int.tmod (wrap64 ((Int.tmod a1 9000000000) + 9000000000)) 9000000000) a3 t752 (decide (bt762.2 > (wrap64 ((wrap64 (bt757.2 + (Int.tmod (wrap64 ((Int.tmod a2 9000000000) + 9000000000)) 9000000000))) + 1)))) bt757.1 bt757.2)))) else (levylaw1_MoneyBands.j0 k (Int.tmod (wrap64 ((Int.tmod a1 9000000000) + 9000000000)) 9000000000) a3 t752 true bt757.1 bt757.2)) else (levylaw1_MoneyBands.j0 k (Int.tmod (wrap64 ((Int.tmod a1 9000000000) + 9000000000)) 9000000000) a3 t752 true bt757.1 bt757.2))))))) else (some false))) = some r := h
 clear h
 replace H := Option.bind_eq_some_iff.mp H
 obtain ⟨t751, A50, H⟩ := H
 replace H : (if t751 = true then ((levylaw1_right.f k l0).bind fun t752 => ((levylaw1_c.f (Int.tmod (wrap64 ((Int.tmod a1 9000000000) + 9000000000)) 9000000000)).bind fun bt755 => ((money_Bracket.f k t752 bt755.1 bt755.2).bind fun bt757 => ((levylaw1_c.f (wrap64 ((Int.tmod (wrap64 ((Int.tmod a1 9000000000) + 9000000000)) 9000000000) + (Int.tmod (wrap64 ((Int.tmod a2 9000000000) + 9000000000)) 9000000000)))).bind fun bt760 => ((money_Bracket.f k t752 bt760.1 bt760.2).bind fun bt762 => (if bt757.1 = 1 then (if bt762.1 = 1 then (if bt757.2 < 0 then (levylaw1_MoneyBands.j0 k (Int.tmod (wrap64 ((Int.tmod a1 9000000000) + 9000000000)) 9000000000) a3 t752 true bt757.1 bt757.2) else (if bt757.2 > (Int.tmod (wrap64 ((Int.tmod a1 9000000000) + 9000000000)) 9000000000) then (levylaw1_MoneyBands.j0 k (Int.tmod (wrap64 ((Int.tmod a1 9000000000) + 9000000000)) 9000000000) a3 t752 true bt757.1 bt757.2) else (if bt762.2 < bt757.2 then (levylaw1_MoneyBands.j0 k (Int.tmod (wrap64 ((Int.tmod a1 9000000000) + 9000000000)) 9000000000) a3 t752 true bt757.1 bt757.2) else (levylaw1_MoneyBands.j0 k (Int.tmod (wrap64 ((Int.tmod a1 9000000000) + 9000000000)) 9000000000) a3 t752 (decide (bt762.2 > (wrap64 ((wrap64 (bt757.2 + (Int.tmod (wrap64 ((Int.tmod a2 9000000000) + 9000000000)) 9000000000))) + 1)))) bt757.1 bt757.2)))) else (levylaw1_MoneyBands.j0 k (Int.tmod (wrap64 ((Int.tmod a1 9000000000) + 9000000000)) 9000000000) a3 t752 true bt757.1 bt757.2)) else (levylaw1_MoneyBands.j0 k (Int.tmod (wrap64 ((Int.tmod a1 9000000000) + 9000000000)) 9000000000) a3 t752 true bt757.1 bt757.2))))))) else (some false)) = some r := H
 have A5 := Aside0.mk A50
 clear A50
 by_cases c6 : t751 = true
 ·subst c6
  have H1 : ((levylaw1_right.f k l0).bind fun t752 => ((levylaw1_c.f (Int.tmod (wrap64 ((Int.tmod a1 9000000000) + 9000000000)) 9000000000)).bind fun bt755 => ((money_Bracket.f k t752 bt755.1 bt755.2).bind fun bt757 => ((levylaw1_c.f (wrap64 ((Int.tmod (wrap64 ((Int.tmod a1 9000000000) + 9000000000)) 9000000000) + (Int.tmod (wrap64 ((Int.tmod a2 9000000000) + 9000000000)) 9000000000)))).bind fun bt760 => ((money_Bracket.f k t752 bt760.1 bt760.2).bind fun bt762 => (if bt757.1 = 1 then (if bt762.1 = 1 then (if bt757.2 < 0 then (levylaw1_MoneyBands.j0 k (Int.tmod (wrap64 ((Int.tmod a1 9000000000) + 9000000000)) 9000000000) a3 t752 true bt757.1 bt757.2) else (if bt757.2 > (Int.tmod (wrap64 ((Int.tmod a1 9000000000) + 9000000000)) 9000000000) then (levylaw1_MoneyBands.j0 k (Int.tmod (wrap64 ((Int.tmod a1 9000000000) + 9000000000)) 9000000000) a3 t752 true bt757.1 bt757.2) else (if bt762.2 < bt757.2 then (levylaw1_MoneyBands.j0 k (Int.tmod (wrap64 ((Int.tmod a1 9000000000) + 9000000000)) 9000000000) a3 t752 true bt757.1 bt757.2) else (levylaw1_MoneyBands.j0 k (Int.tmod (wrap64 ((Int.tmod a1 9000000000) + 9000000000)) 9000000000) a3 t752 (decide (bt762.2 > (wrap64 ((wrap64 (bt757.2 + (Int.tmod (wrap64 ((Int.tmod a2 9000000000) + 9000000000)) 9000000000))) + 1)))) bt757.1 bt757.2)))) else (levylaw1_MoneyBands.j0 k (Int.tmod (wrap64 ((Int.tmod a1 9000000000) + 9000000000)) 9000000000) a3 t752 true bt757.1 bt757.2)) else (levylaw1_MoneyBands.j0 k (Int.tmod (wrap64 ((Int.tmod a1 9000000000) + 9000000000)) 9000000000) a3 t752 true bt757.1 bt757.2))))))) = some r := by rw [if_pos rfl] at H; exact H
  clear H
  have H := H1
  clear H1
  replace H := Option.bind_eq_some_iff.mp H
  obtain ⟨t752, A70, H⟩ := H
  replace H : ((levylaw1_c.f (Int.tmod (wrap64 ((Int.tmod a1 9000000000) + 9000000000)) 9000000000)).bind fun bt755 => ((money_Bracket.f k t752 bt755.1 bt755.2).bind fun bt757 => ((levylaw1_c.f (wrap64 ((Int.tmod (wrap64 ((Int.tmod a1 9000000000) + 9000000000)) 9000000000) + (Int.tmod (wrap64 ((Int.tmod a2 9000000000) + 9000000000)) 9000000000)))).bind fun bt760 => ((money_Bracket.f k t752 bt760.1 bt760.2).bind fun bt762 => (if bt757.1 = 1 then (if bt762.1 = 1 then (if bt757.2 < 0 then (levylaw1_MoneyBands.j0 k (Int.tmod (wrap64 ((Int.tmod a1 9000000000) + 9000000000)) 9000000000) a3 t752 true bt757.1 bt757.2) else (if bt757.2 > (Int.tmod (wrap64 ((Int.tmod a1 9000000000) + 9000000000)) 9000000000) then (levylaw1_MoneyBands.j0 k (Int.tmod (wrap64 ((Int.tmod a1 9000000000) + 9000000000)) 9000000000) a3 t752 true bt757.1 bt757.2) else (if bt762.2 < bt757.2 then (levylaw1_MoneyBands.j0 k (Int.tmod (wrap64 ((Int.tmod a1 9000000000) + 9000000000)) 9000000000) a3 t752 true bt757.1 bt757.2) else (levylaw1_MoneyBands.j0 k (Int.tmod (wrap64 ((Int.tmod a1 9000000000) + 9000000000)) 9000000000) a3 t752 (decide (bt762.2 > (wrap64 ((wrap64 (bt757.2 + (Int.tmod (wrap64 ((Int.tmod a2 9000000000) + 9000000000)) 9000000000))) + 1)))) bt757.1 bt757.2)))) else (levylaw1_MoneyBands.j0 k (Int.tmod (wrap64 ((Int.tmod a1 9000000000) + 9000000000)) 9000000000) a3 t752 true bt757.1 bt757.2)) else (levylaw1_MoneyBands.j0 k (Int.tmod (wrap64 ((Int.tmod a1 9000000000) + 9000000000)) 9000000000) a3 t752 true bt757.1 bt757.2)))))) = some r := H
  have A7 := Aside0.mk A70
  clear A70
  replace H := Option.bind_eq_some_iff.mp H
  obtain ⟨⟨t755, t756⟩, A80, H⟩ := H
  replace H : ((money_Bracket.f k t752 t755 t756).bind fun bt757 => ((levylaw1_c.f (wrap64 ((Int.tmod (wrap64 ((Int.tmod a1 9000000000) + 9000000000)) 9000000000) + (Int.tmod (wrap64 ((Int.tmod a2 9000000000) + 9000000000)) 9000000000)))).bind fun bt760 => ((money_Bracket.f k t752 bt760.1 bt760.2).bind fun bt762 => (if bt757.1 = 1 then (if bt762.1 = 1 then (if bt757.2 < 0 then (levylaw1_MoneyBands.j0 k (Int.tmod (wrap64 ((Int.tmod a1 9000000000) + 9000000000)) 9000000000) a3 t752 true bt757.1 bt757.2) else (if bt757.2 > (Int.tmod (wrap64 ((Int.tmod a1 9000000000) + 9000000000)) 9000000000) then (levylaw1_MoneyBands.j0 k (Int.tmod (wrap64 ((Int.tmod a1 9000000000) + 9000000000)) 9000000000) a3 t752 true bt757.1 bt757.2) else (if bt762.2 < bt757.2 then (levylaw1_MoneyBands.j0 k (Int.tmod (wrap64 ((Int.tmod a1 9000000000) + 9000000000)) 9000000000) a3 t752 true bt757.1 bt757.2) else (levylaw1_MoneyBands.j0 k (Int.tmod (wrap64 ((Int.tmod a1 9000000000) + 9000000000)) 9000000000) a3 t752 (decide (bt762.2 > (wrap64 ((wrap64 (bt757.2 + (Int.tmod (wrap64 ((Int.tmod a2 9000000000) + 9000000000)) 9000000000))) + 1)))) bt757.1 bt757.2)))) else (levylaw1_MoneyBands.j0 k (Int.tmod (wrap64 ((Int.tmod a1 9000000000) + 9000000000)) 9000000000) a3 t752 true bt757.1 bt757.2)) else (levylaw1_MoneyBands.j0 k (Int.tmod (wrap64 ((Int.tmod a1 9000000000) + 9000000000)) 9000000000) a3 t752 true bt757.1 bt757.2))))) = some r := H
  have A8 := Aside0.mk A80
  clear A80
  replace H := Option.bind_eq_some_iff.mp H
  obtain ⟨⟨t757, t758⟩, A90, H⟩ := H
  replace H : ((levylaw1_c.f (wrap64 ((Int.tmod (wrap64 ((Int.tmod a1 9000000000) + 9000000000)) 9000000000) + (Int.tmod (wrap64 ((Int.tmod a2 9000000000) + 9000000000)) 9000000000)))).bind fun bt760 => ((money_Bracket.f k t752 bt760.1 bt760.2).bind fun bt762 => (if t757 = 1 then (if bt762.1 = 1 then (if t758 < 0 then (levylaw1_MoneyBands.j0 k (Int.tmod (wrap64 ((Int.tmod a1 9000000000) + 9000000000)) 9000000000) a3 t752 true t757 t758) else (if t758 > (Int.tmod (wrap64 ((Int.tmod a1 9000000000) + 9000000000)) 9000000000) then (levylaw1_MoneyBands.j0 k (Int.tmod (wrap64 ((Int.tmod a1 9000000000) + 9000000000)) 9000000000) a3 t752 true t757 t758) else (if bt762.2 < t758 then (levylaw1_MoneyBands.j0 k (Int.tmod (wrap64 ((Int.tmod a1 9000000000) + 9000000000)) 9000000000) a3 t752 true t757 t758) else (levylaw1_MoneyBands.j0 k (Int.tmod (wrap64 ((Int.tmod a1 9000000000) + 9000000000)) 9000000000) a3 t752 (decide (bt762.2 > (wrap64 ((wrap64 (t758 + (Int.tmod (wrap64 ((Int.tmod a2 9000000000) + 9000000000)) 9000000000))) + 1)))) t757 t758)))) else (levylaw1_MoneyBands.j0 k (Int.tmod (wrap64 ((Int.tmod a1 9000000000) + 9000000000)) 9000000000) a3 t752 true t757 t758)) else (levylaw1_MoneyBands.j0 k (Int.tmod (wrap64 ((Int.tmod a1 9000000000) + 9000000000)) 9000000000) a3 t752 true t757 t758)))) = some r := H
  have A9 := Aside0.mk A90
  clear A90
  replace H := Option.bind_eq_some_iff.mp H
  obtain ⟨⟨t760, t761⟩, A100, H⟩ := H
  replace H : ((money_Bracket.f k t752 t760 t761).bind fun bt762 => (if t757 = 1 then (if bt762.1 = 1 then (if t758 < 0 then (levylaw1_MoneyBands.j0 k (Int.tmod (wrap64 ((Int.tmod a1 9000000000) + 9000000000)) 9000000000) a3 t752 true t757 t758) else (if t758 > (Int.tmod (wrap64 ((Int.tmod a1 9000000000) + 9000000000)) 9000000000) then (levylaw1_MoneyBands.j0 k (Int.tmod (wrap64 ((Int.tmod a1 9000000000) + 9000000000)) 9000000000) a3 t752 true t757 t758) else (if bt762.2 < t758 then (levylaw1_MoneyBands.j0 k (Int.tmod (wrap64 ((Int.tmod a1 9000000000) + 9000000000)) 9000000000) a3 t752 true t757 t758) else (levylaw1_MoneyBands.j0 k (Int.tmod (wrap64 ((Int.tmod a1 9000000000) + 9000000000)) 9000000000) a3 t752 (decide (bt762.2 > (wrap64 ((wrap64 (t758 + (Int.tmod (wrap64 ((Int.tmod a2 9000000000) + 9000000000)) 9000000000))) + 1)))) t757 t758)))) else (levylaw1_MoneyBands.j0 k (Int.tmod (wrap64 ((Int.tmod a1 9000000000) + 9000000000)) 9000000000) a3 t752 true t757 t758)) else (levylaw1_MoneyBands.j0 k (Int.tmod (wrap64 ((Int.tmod a1 9000000000) + 9000000000)) 9000000000) a3 t752 true t757 t758))) = some r := H
  have A10 := Aside0.mk A100
  clear A100
  replace H := Option.bind_eq_some_iff.mp H
  obtain ⟨⟨t762, t763⟩, A110, H⟩ := H
  replace H : (if t757 = 1 then (if t762 = 1 then (if t758 < 0 then (levylaw1_MoneyBands.j0 k (Int.tmod (wrap64 ((Int.tmod a1 9000000000) + 9000000000)) 9000000000) a3 t752 true t757 t758) else (if t758 > (Int.tmod (wrap64 ((Int.tmod a1 9000000000) + 9000000000)) 9000000000) then (levylaw1_MoneyBands.j0 k (Int.tmod (wrap64 ((Int.tmod a1 9000000000) + 9000000000)) 9000000000) a3 t752 true t757 t758) else (if t763 < t758 then (levylaw1_MoneyBands.j0 k (Int.tmod (wrap64 ((Int.tmod a1 9000000000) + 9000000000)) 9000000000) a3 t752 true t757 t758) else (levylaw1_MoneyBands.j0 k (Int.tmod (wrap64 ((Int.tmod a1 9000000000) + 9000000000)) 9000000000) a3 t752 (decide (t763 > (wrap64 ((wrap64 (t758 + (Int.tmod (wrap64 ((Int.tmod a2 9000000000) + 9000000000)) 9000000000))) + 1)))) t757 t758)))) else (levylaw1_MoneyBands.j0 k (Int.tmod (wrap64 ((Int.tmod a1 9000000000) + 9000000000)) 9000000000) a3 t752 true t757 t758)) else (levylaw1_MoneyBands.j0 k (Int.tmod (wrap64 ((Int.tmod a1 9000000000) + 9000000000)) 9000000000) a3 t752 true t757 t758)) = some r := H
  have A11 := Aside0.mk A110
  clear A110
  have HC12 := Aside0.mk H
  clear H
  go_enter Tryd.func14, Tryd.ntmps14
  go_upto_region 8 with (first | ((with_reducible refine gate_callee (f := 51) rfl ?_); refine goesL_ (some 16) rfl rfl Tryd.func51 (by kernel_rfl) rfl #[] rfl agx ?_; (with_reducible refine (levylaw1_known.calls k  true _ A5.out (by first | exact HG0.out | exact Kd.C_below HG0.out blx)).mono ?_); rintro e w13 ⟨rfl, hb⟩; refine ⟨_, rfl, ?_⟩; have n0_ := Aside0.mk (below_step blx hb); clear HB; have HB := n0_; clear n0_; (try clear hb); (try clear hb2); (try clear hk); (try clear hi)) | ((with_reducible refine gate_callee (f := 53) rfl ?_); refine goesL_ (some 19) rfl rfl Tryd.func53 (by kernel_rfl) rfl #[.slice A0 l0.length c0] rfl agx ?_; (with_reducible refine (levylaw1_right.calls k _ _ l0 t752 _ ?side1 ?side2 A7.out).mono ?_); (case side1 => repeat (first | exact (Kd.C_below HR0.out HB.out) | (with_reducible refine Kd.C_alloc ?_ _) | (with_reducible refine Kd.C_drewN ?_ _) | (with_reducible refine Kd.C_drew ?_))); (case side2 => exact HC0.out); rintro e w14 ⟨v753, rfl, ho0, hb⟩; refine ⟨_, rfl, ?_⟩; have n0_ := Aside0.mk (Kd.R_lower ho0 (below_size blx)); have n1_ := Aside0.mk (below_step blx hb); clear HB; have HO754 := n0_; have HB := n1_; clear n0_ n1_; (try clear hb); (try clear hb2); (try clear hk); (try clear hi); (try clear ho0)) | ((with_reducible refine gate_callee (f := 52) rfl ?_); refine goesL_ (some 30) rfl rfl Tryd.func52 (by kernel_rfl) rfl #[.int .i64 (Int.tmod (wrap64 ((Int.tmod a1 9000000000) + 9000000000)) 9000000000)] rfl agx ?_; (with_reducible refine (levylaw1_c.calls (Int.tmod (wrap64 ((Int.tmod a1 9000000000) + 9000000000)) 9000000000) t755 t756 _ A8.out).mono ?_); rintro e w15 ⟨rfl, hb⟩; refine ⟨_, rfl, ?_⟩; have n0_ := Aside0.mk (Kd.R_below (by (with_reducible repeat (first | apply Kd.R_alloc | apply Kd.R_drewN | apply Kd.R_drew)); exact HO754.out) hb); have n1_ := Aside0.mk (below_step blx hb); clear HO754; clear HB; have HO754 := n0_; have HB := n1_; clear n0_ n1_; (try clear hb); (try clear hb2); (try clear hk); (try clear hi); obtain ⟨Ao16, co16, eo16⟩ := Kd.R_slice HO754.out; subst eo16) | ((with_reducible refine gate_callee (f := 45) rfl ?_); refine goesL_ (some 31) rfl rfl Tryd.func45 (by kernel_rfl) rfl #[.slice Ao16 t752.length co16, .agg #[.int .i64 t755, .int .i64 t756]] rfl agx ?_; (with_reducible refine (money_Bracket.calls k _ _ t752 t755 t756 t757 t758 _ ?side1 ?side2 A9.out (by first | exact HG0.out | exact Kd.C_below HG0.out blx)).mono ?_); (case side1 => repeat (first | exact (Kd.R_reads' HO754.out).2.2 | (with_reducible refine Kd.C_alloc ?_ _) | (with_reducible refine Kd.C_drewN ?_ _) | (with_reducible refine Kd.C_drew ?_))); (case side2 => exact (Kd.R_reads' HO754.out).2.1); rintro e w17 ⟨rfl, hb⟩; refine ⟨_, rfl, ?_⟩; have n0_ := Aside0.mk (Kd.R_below (by (with_reducible repeat (first | apply Kd.R_alloc | apply Kd.R_drewN | apply Kd.R_drew)); exact HO754.out) hb); have n1_ := Aside0.mk (below_step blx hb); clear HO754; clear HB; have HO754 := n0_; have HB := n1_; clear n0_ n1_; (try clear hb); (try clear hb2); (try clear hk); (try clear hi)) | ((with_reducible refine gate_dst (N := 10) rfl ?_); (try (refine gate_guard (by rfl) ?_; dsimp only)); refine box_event ?hg (N := 10) ?hd (cs := #[.int .i64 0, .int .i64 0]) (t := 23) ?hr ?_; (case hd => rfl); (case hg => rfl); (case hr => first | (go_simp; done) | (go_simp; rfl)); intro gb759 hg w18 hbox hb; have n0_ := Aside0.mk (Kd.R_below (by (with_reducible repeat (first | apply Kd.R_alloc | apply Kd.R_drewN | apply Kd.R_drew)); exact HO754.out) hb); have n1_ := Aside0.mk (below_step blx hb); have n2_ := Aside0.mk (hbox); have n3_ := Aside0.mk ((by rw [hg]; exact (below_size blx) : w.heap.size ≤ gb759)); have n4_ := Aside0.mk ((by rw [hg]; exact (below_size blx) : w.heap.size ≤ gb759)); clear HO754; clear HB; have HO754 := n0_; have HB := n1_; have BK759 := n2_; have GW759 := n3_; have GE759 := n4_; clear n0_ n1_ n2_ n3_ n4_; clear hb hbox hg; have hcz19_0 : w18.cell? ⟨gb759, 0, none⟩ = some (.int .i64 0) := (blk_cell BK759.out 0).trans rfl; have hcz19_1 : w18.cell? ⟨gb759, 1, none⟩ = some (.int .i64 0) := (blk_cell BK759.out 1).trans rfl; have hfz19_0 := blk_frozen BK759.out 0; have hfz19_1 := blk_frozen BK759.out 1) | ((with_reducible refine gate_callee (f := 52) rfl ?_); refine goesL_ (some 36) rfl rfl Tryd.func52 (by kernel_rfl) rfl #[.int .i64 (wrap64 ((Int.tmod (wrap64 ((Int.tmod a1 9000000000) + 9000000000)) 9000000000) + (Int.tmod (wrap64 ((Int.tmod a2 9000000000) + 9000000000)) 9000000000)))] rfl agx ?_; (with_reducible refine (levylaw1_c.calls (wrap64 ((Int.tmod (wrap64 ((Int.tmod a1 9000000000) + 9000000000)) 9000000000) + (Int.tmod (wrap64 ((Int.tmod a2 9000000000) + 9000000000)) 9000000000))) t760 t761 _ A10.out).mono ?_); rintro e w20 ⟨rfl, hb⟩; refine ⟨_, rfl, ?_⟩; have n0_ := Aside0.mk (Kd.R_below (by (with_reducible repeat (first | apply Kd.R_alloc | apply Kd.R_drewN | apply Kd.R_drew)); exact (Kd.R_mono (Kd.R_far (p := ⟨gb759, 1, none⟩) (Kd.R_far (p := ⟨gb759, 0, none⟩) (Kd.R_types HO754.out BK759.out (by decide)) (fun _ hk => hk.2) (.int .i64 t757)) (fun _ hk => hk.2) (.int .i64 t758)) (fun _ h_ => h_.1))) hb); have n1_ := Aside0.mk (blk_below (g := gb759) (o := .cells #[.int .i64 t757, .int .i64 t758] 23 (0, 0)) (by (with_reducible repeat (first | refine blk_drewN ?_ _ | refine blk_drew ?_ | refine blk_alloc ?_ _)); refine blk_put (cs := #[.int .i64 t757, .int .i64 0]) ?_ 1 _ rfl; (with_reducible repeat (first | refine blk_drewN ?_ _ | refine blk_drew ?_ | refine blk_alloc ?_ _)); refine blk_put (cs := #[.int .i64 0, .int .i64 0]) ?_ 0 _ rfl; (with_reducible repeat (first | refine blk_drewN ?_ _ | refine blk_drew ?_ | refine blk_alloc ?_ _)); exact BK759.out) hb); have n2_ := Aside0.mk (below_step blx hb); clear HO754; clear BK759; clear HB; have HO754 := n0_; have BK759 := n1_; have HB := n2_; clear n0_ n1_ n2_; (try clear hb); (try clear hb2); (try clear hk); (try clear hi)) | ((with_reducible refine gate_callee (f := 45) rfl ?_); refine goesL_ (some 37) rfl rfl Tryd.func45 (by kernel_rfl) rfl #[.slice Ao16 t752.length co16, .agg #[.int .i64 t760, .int .i64 t761]] rfl agx ?_; (with_reducible refine (money_Bracket.calls k _ _ t752 t760 t761 t762 t763 _ ?side1 ?side2 A11.out (by first | exact HG0.out | exact Kd.C_below HG0.out blx)).mono ?_); (case side1 => repeat (first | exact (Kd.R_reads' HO754.out).2.2 | (with_reducible refine Kd.C_alloc ?_ _) | (with_reducible refine Kd.C_drewN ?_ _) | (with_reducible refine Kd.C_drew ?_))); (case side2 => exact (Kd.R_reads' HO754.out).2.1); rintro e w21 ⟨rfl, hb⟩; refine ⟨_, rfl, ?_⟩; have n0_ := Aside0.mk (Kd.R_below (by (with_reducible repeat (first | apply Kd.R_alloc | apply Kd.R_drewN | apply Kd.R_drew)); exact HO754.out) hb); have n1_ := Aside0.mk (blk_below (g := gb759) (o := .cells #[.int .i64 t757, .int .i64 t758] 23 (0, 0)) bkx hb); have n2_ := Aside0.mk (below_step blx hb); clear HO754; clear BK759; clear HB; have HO754 := n0_; have BK759 := n1_; have HB := n2_; clear n0_ n1_ n2_; (try clear hb); (try clear hb2); (try clear hk); (try clear hi)) | ((with_reducible refine gate_dst (N := 11) rfl ?_); (try (refine gate_guard (by rfl) ?_; dsimp only)); refine box_event ?hg (N := 11) ?hd (cs := #[.int .i64 0, .int .i64 0]) (t := 23) ?hr ?_; (case hd => rfl); (case hg => rfl); (case hr => first | (go_simp; done) | (go_simp; rfl)); intro gb764 hg w22 hbox hb; have n0_ := Aside0.mk (Kd.R_below (by (with_reducible repeat (first | apply Kd.R_alloc | apply Kd.R_drewN | apply Kd.R_drew)); exact HO754.out) hb); have n1_ := Aside0.mk (blk_below (g := gb759) (o := .cells #[.int .i64 t757, .int .i64 t758] 23 (0, 0)) bkx hb); have n2_ := Aside0.mk (below_step blx hb); have n3_ := Aside0.mk (hbox); have n4_ := Aside0.mk ((by rw [hg]; exact (below_size blx) : w.heap.size ≤ gb764)); have n5_ := Aside0.mk ((by rw [hg]; exact (below_size blx) : w.heap.size ≤ gb764)); have n6_ := Aside0.mk ((by rw [hg]; exact Nat.ne_of_lt (blk_lt (g := gb759) (o := .cells #[.int .i64 t757, .int .i64 t758] 23 (0, 0)) bkx) : gb759 ≠ gb764)); have n7_ := Aside0.mk ((by rw [hg]; exact Nat.ne_of_gt (blk_lt (g := gb759) (o := .cells #[.int .i64 t757, .int .i64 t758] 23 (0, 0)) bkx) : gb764 ≠ gb759)); clear HO754; clear BK759; clear HB; have HO754 := n0_; have BK759 := n1_; have HB := n2_; have BK764 := n3_; have GW764 := n4_; have GE764 := n5_; have NB759_764 := n6_; have NB764_759 := n7_; clear n0_ n1_ n2_ n3_ n4_ n5_ n6_ n7_; clear hb hbox hg; have hnb23 := NB764_759.out; have hnc23 := NB759_764.out; have hcz24_0 : w22.cell? ⟨gb764, 0, none⟩ = some (.int .i64 0) := (blk_cell BK764.out 0).trans rfl; have hcz24_1 : w22.cell? ⟨gb764, 1, none⟩ = some (.int .i64 0) := (blk_cell BK764.out 1).trans rfl; have hfz24_0 := blk_frozen BK764.out 0; have hfz24_1 := blk_frozen BK764.out 1))
  (try simp only [Act.put, List.setIfInBounds_toArray, List.set_cons_zero, List.set_cons_succ])
  go_cut [73] (fun v73 wc => ∃ (kq : Nat) (x73_11 : Bool), v73 = .bool x73_11 ∧ Aside0 (levylaw1_MoneyBands.j0 kq (Int.tmod (wrap64 ((Int.tmod a1 9000000000) + 9000000000)) 9000000000) a3 t752 x73_11 t757 t758 = some r) ∧ Aside0 (kq ≤ k) ∧ Aside0 (Kd.R k72 72 wc w.heap.size (fun _ => True) (.slice Ao16 t752.length co16) t752) ∧ Aside0 (wc.heap[gb759]? = some (.cells #[.int .i64 t757, .int .i64 t758] 23 (0, 0))) ∧ Aside0 (wc.heap[gb764]? = some (.cells #[.int .i64 t762, .int .i64 t763] 23 (0, 0))) ∧ Aside0 (Below w.heap.size w wc))
  case first =>
   have H := HC12.out
   clear HC12
   by_cases c25 : t757 = 1
   ·rw [if_pos c25] at H
    have c25b0 : (t757 == 1) = true := beq_iff_eq.mpr c25
    have c25b1 : (t757 != 1) = false := bne_eq_false_iff_eq.mpr c25
    clear c25
    (first | rw [c25b0] | (simp only [i64_w, i32_w]; rw [c25b0]) | skip)
    by_cases c26 : t762 = 1
    ·rw [if_pos c26] at H
     have c26b0 : (t762 == 1) = true := beq_iff_eq.mpr c26
     have c26b1 : (t762 != 1) = false := bne_eq_false_iff_eq.mpr c26
     clear c26
     by_cases c27 : t758 < 0
     ·rw [if_pos c27] at H
      have c27b0 : decide (t758 < 0) = true := decide_eq_true c27
      clear c27
      have H' := Aside0.mk H
      clear H
      have hnb28 := NB759_764.out
      have hnc28 := NB764_759.out
      have hcz29_0 : w22.cell? ⟨gb759, 0, none⟩ = some (.int .i64 t757) := (blk_cell BK759.out 0).trans rfl
      have hcz29_1 : w22.cell? ⟨gb759, 1, none⟩ = some (.int .i64 t758) := (blk_cell BK759.out 1).trans rfl
      have hfz29_0 := blk_frozen BK759.out 0
      have hfz29_1 := blk_frozen BK759.out 1
      have hcz30_0 : w22.cell? ⟨gb764, 0, none⟩ = some (.int .i64 0) := (blk_cell BK764.out 0).trans rfl
      have hcz30_1 : w22.cell? ⟨gb764, 1, none⟩ = some (.int .i64 0) := (blk_cell BK764.out 1).trans rfl
      have hfz30_0 := blk_frozen BK764.out 0
      have hfz30_1 := blk_frozen BK764.out 1
      go_wp2
      go_meet
      case rel => exact ⟨_, (true), (by first | rfl | (simp; done) | (simp [*]; done)), H', ⟨by first | omega | exact Nat.le_refl _⟩, ⟨by (with_reducible repeat (first | apply Kd.R_alloc | apply Kd.R_drewN | apply Kd.R_drew)); exact Kd.R_mono (Kd.R_far (p := ⟨gb764, 1, none⟩) (Kd.R_far (p := ⟨gb764, 0, none⟩) (Kd.R_types HO754.out BK764.out (by decide)) (fun _ hk => hk.2) (.int .i64 t762)) (fun _ hk => hk.2) (.int .i64 t763)) (fun _ hk => trivial)⟩, ⟨bkx⟩, ⟨by (with_reducible repeat (first | refine blk_drewN ?_ _ | refine blk_drew ?_ | refine blk_alloc ?_ _)); refine blk_put (cs := #[.int .i64 t762, .int .i64 0]) ?_ 1 _ rfl; (with_reducible repeat (first | refine blk_drewN ?_ _ | refine blk_drew ?_ | refine blk_alloc ?_ _)); refine blk_put (cs := #[.int .i64 0, .int .i64 0]) ?_ 0 _ rfl; (with_reducible repeat (first | refine blk_drewN ?_ _ | refine blk_drew ?_ | refine blk_alloc ?_ _)); exact BK764.out⟩, ⟨blx⟩⟩
     ·rw [if_neg c27] at H
      have c27b0 : decide (t758 < 0) = false := decide_eq_false c27
      clear c27
      by_cases c31 : t758 > (Int.tmod (wrap64 ((Int.tmod a1 9000000000) + 9000000000)) 9000000000)
      ·rw [if_pos c31] at H
       have c31b0 : decide ((Int.tmod (wrap64 ((Int.tmod a1 9000000000) + 9000000000)) 9000000000) < t758) = true := decide_eq_true c31
       clear c31
       have H' := Aside0.mk H
       clear H
       have hnb32 := NB759_764.out
       have hnc32 := NB764_759.out
       have hcz33_0 : w22.cell? ⟨gb759, 0, none⟩ = some (.int .i64 t757) := (blk_cell BK759.out 0).trans rfl
       have hcz33_1 : w22.cell? ⟨gb759, 1, none⟩ = some (.int .i64 t758) := (blk_cell BK759.out 1).trans rfl
       have hfz33_0 := blk_frozen BK759.out 0
       have hfz33_1 := blk_frozen BK759.out 1
       have hcz34_0 : w22.cell? ⟨gb764, 0, none⟩ = some (.int .i64 0) := (blk_cell BK764.out 0).trans rfl
       have hcz34_1 : w22.cell? ⟨gb764, 1, none⟩ = some (.int .i64 0) := (blk_cell BK764.out 1).trans rfl
       have hfz34_0 := blk_frozen BK764.out 0
       have hfz34_1 := blk_frozen BK764.out 1
       go_wp2
       go_meet
       case rel => exact ⟨_, (true), (by first | rfl | (simp; done) | (simp [*]; done)), H', ⟨by first | omega | exact Nat.le_refl _⟩, ⟨by (with_reducible repeat (first | apply Kd.R_alloc | apply Kd.R_drewN | apply Kd.R_drew)); exact Kd.R_mono (Kd.R_far (p := ⟨gb764, 1, none⟩) (Kd.R_far (p := ⟨gb764, 0, none⟩) (Kd.R_types HO754.out BK764.out (by decide)) (fun _ hk => hk.2) (.int .i64 t762)) (fun _ hk => hk.2) (.int .i64 t763)) (fun _ hk => trivial)⟩, ⟨bkx⟩, ⟨by (with_reducible repeat (first | refine blk_drewN ?_ _ | refine blk_drew ?_ | refine blk_alloc ?_ _)); refine blk_put (cs := #[.int .i64 t762, .int .i64 0]) ?_ 1 _ rfl; (with_reducible repeat (first | refine blk_drewN ?_ _ | refine blk_drew ?_ | refine blk_alloc ?_ _)); refine blk_put (cs := #[.int .i64 0, .int .i64 0]) ?_ 0 _ rfl; (with_reducible repeat (first | refine blk_drewN ?_ _ | refine blk_drew ?_ | refine blk_alloc ?_ _)); exact BK764.out⟩, ⟨blx⟩⟩
      ·rw [if_neg c31] at H
       have c31b0 : decide ((Int.tmod (wrap64 ((Int.tmod a1 9000000000) + 9000000000)) 9000000000) < t758) = false := decide_eq_false c31
       clear c31
       by_cases c35 : t763 < t758
       ·rw [if_pos c35] at H
        have c35b0 : decide (t763 < t758) = true := decide_eq_true c35
        clear c35
        have H' := Aside0.mk H
        clear H
        have hnb36 := NB759_764.out
        have hnc36 := NB764_759.out
        have hcz37_0 : w22.cell? ⟨gb759, 0, none⟩ = some (.int .i64 t757) := (blk_cell BK759.out 0).trans rfl
        have hcz37_1 : w22.cell? ⟨gb759, 1, none⟩ = some (.int .i64 t758) := (blk_cell BK759.out 1).trans rfl
        have hfz37_0 := blk_frozen BK759.out 0
        have hfz37_1 := blk_frozen BK759.out 1
        have hcz38_0 : w22.cell? ⟨gb764, 0, none⟩ = some (.int .i64 0) := (blk_cell BK764.out 0).trans rfl
        have hcz38_1 : w22.cell? ⟨gb764, 1, none⟩ = some (.int .i64 0) := (blk_cell BK764.out 1).trans rfl
        have hfz38_0 := blk_frozen BK764.out 0
        have hfz38_1 := blk_frozen BK764.out 1
        go_wp2
        go_meet
        case rel => exact ⟨_, (true), (by first | rfl | (simp; done) | (simp [*]; done)), H', ⟨by first | omega | exact Nat.le_refl _⟩, ⟨by (with_reducible repeat (first | apply Kd.R_alloc | apply Kd.R_drewN | apply Kd.R_drew)); exact Kd.R_mono (Kd.R_far (p := ⟨gb764, 1, none⟩) (Kd.R_far (p := ⟨gb764, 0, none⟩) (Kd.R_types HO754.out BK764.out (by decide)) (fun _ hk => hk.2) (.int .i64 t762)) (fun _ hk => hk.2) (.int .i64 t763)) (fun _ hk => trivial)⟩, ⟨bkx⟩, ⟨by (with_reducible repeat (first | refine blk_drewN ?_ _ | refine blk_drew ?_ | refine blk_alloc ?_ _)); refine blk_put (cs := #[.int .i64 t762, .int .i64 0]) ?_ 1 _ rfl; (with_reducible repeat (first | refine blk_drewN ?_ _ | refine blk_drew ?_ | refine blk_alloc ?_ _)); refine blk_put (cs := #[.int .i64 0, .int .i64 0]) ?_ 0 _ rfl; (with_reducible repeat (first | refine blk_drewN ?_ _ | refine blk_drew ?_ | refine blk_alloc ?_ _)); exact BK764.out⟩, ⟨blx⟩⟩
       ·rw [if_neg c35] at H
        have c35b0 : decide (t763 < t758) = false := decide_eq_false c35
        clear c35
        have H' := Aside0.mk H
        clear H
        have hnb39 := NB759_764.out
        have hnc39 := NB764_759.out
        have hcz40_0 : w22.cell? ⟨gb759, 0, none⟩ = some (.int .i64 t757) := (blk_cell BK759.out 0).trans rfl
        have hcz40_1 : w22.cell? ⟨gb759, 1, none⟩ = some (.int .i64 t758) := (blk_cell BK759.out 1).trans rfl
        have hfz40_0 := blk_frozen BK759.out 0
        have hfz40_1 := blk_frozen BK759.out 1
        have hcz41_0 : w22.cell? ⟨gb764, 0, none⟩ = some (.int .i64 0) := (blk_cell BK764.out 0).trans rfl
        have hcz41_1 : w22.cell? ⟨gb764, 1, none⟩ = some (.int .i64 0) := (blk_cell BK764.out 1).trans rfl
        have hfz41_0 := blk_frozen BK764.out 0
        have hfz41_1 := blk_frozen BK764.out 1
        go_wp2
        go_meet
        case rel => exact ⟨_, (decide (t763 > (wrap64 ((wrap64 (t758 + (Int.tmod (wrap64 ((Int.tmod a2 9000000000) + 9000000000)) 9000000000))) + 1)))), (by first | rfl | (simp; done) | (simp [*]; done)), H', ⟨by first | omega | exact Nat.le_refl _⟩, ⟨by (with_reducible repeat (first | apply Kd.R_alloc | apply Kd.R_drewN | apply Kd.R_drew)); exact Kd.R_mono (Kd.R_far (p := ⟨gb764, 1, none⟩) (Kd.R_far (p := ⟨gb764, 0, none⟩) (Kd.R_types HO754.out BK764.out (by decide)) (fun _ hk => hk.2) (.int .i64 t762)) (fun _ hk => hk.2) (.int .i64 t763)) (fun _ hk => trivial)⟩, ⟨bkx⟩, ⟨by (with_reducible repeat (first | refine blk_drewN ?_ _ | refine blk_drew ?_ | refine blk_alloc ?_ _)); refine blk_put (cs := #[.int .i64 t762, .int .i64 0]) ?_ 1 _ rfl; (with_reducible repeat (first | refine blk_drewN ?_ _ | refine blk_drew ?_ | refine blk_alloc ?_ _)); refine blk_put (cs := #[.int .i64 0, .int .i64 0]) ?_ 0 _ rfl; (with_reducible repeat (first | refine blk_drewN ?_ _ | refine blk_drew ?_ | refine blk_alloc ?_ _)); exact BK764.out⟩, ⟨blx⟩⟩
    ·rw [if_neg c26] at H
     have c26b0 : (t762 == 1) = false := beq_eq_false_iff_ne.mpr c26
     have c26b1 : (t762 != 1) = true := bne_iff_ne.mpr c26
     have H' := Aside0.mk H
     clear H
     have hnb42 := NB759_764.out
     have hnc42 := NB764_759.out
     have hcz43_0 : w22.cell? ⟨gb759, 0, none⟩ = some (.int .i64 t757) := (blk_cell BK759.out 0).trans rfl
     have hcz43_1 : w22.cell? ⟨gb759, 1, none⟩ = some (.int .i64 t758) := (blk_cell BK759.out 1).trans rfl
     have hfz43_0 := blk_frozen BK759.out 0
     have hfz43_1 := blk_frozen BK759.out 1
     have hcz44_0 : w22.cell? ⟨gb764, 0, none⟩ = some (.int .i64 0) := (blk_cell BK764.out 0).trans rfl
     have hcz44_1 : w22.cell? ⟨gb764, 1, none⟩ = some (.int .i64 0) := (blk_cell BK764.out 1).trans rfl
     have hfz44_0 := blk_frozen BK764.out 0
     have hfz44_1 := blk_frozen BK764.out 1
     go_wp2
     go_meet
     case rel => exact ⟨_, (true), (by first | rfl | (simp; done) | (simp [*]; done)), H', ⟨by first | omega | exact Nat.le_refl _⟩, ⟨by (with_reducible repeat (first | apply Kd.R_alloc | apply Kd.R_drewN | apply Kd.R_drew)); exact Kd.R_mono (Kd.R_far (p := ⟨gb764, 1, none⟩) (Kd.R_far (p := ⟨gb764, 0, none⟩) (Kd.R_types HO754.out BK764.out (by decide)) (fun _ hk => hk.2) (.int .i64 t762)) (fun _ hk => hk.2) (.int .i64 t763)) (fun _ hk => trivial)⟩, ⟨bkx⟩, ⟨by (with_reducible repeat (first | refine blk_drewN ?_ _ | refine blk_drew ?_ | refine blk_alloc ?_ _)); refine blk_put (cs := #[.int .i64 t762, .int .i64 0]) ?_ 1 _ rfl; (with_reducible repeat (first | refine blk_drewN ?_ _ | refine blk_drew ?_ | refine blk_alloc ?_ _)); refine blk_put (cs := #[.int .i64 0, .int .i64 0]) ?_ 0 _ rfl; (with_reducible repeat (first | refine blk_drewN ?_ _ | refine blk_drew ?_ | refine blk_alloc ?_ _)); exact BK764.out⟩, ⟨blx⟩⟩
   ·rw [if_neg c25] at H
    have c25b0 : (t757 == 1) = false := beq_eq_false_iff_ne.mpr c25
    have c25b1 : (t757 != 1) = true := bne_iff_ne.mpr c25
    (first | rw [c25b0] | (simp only [i64_w, i32_w]; rw [c25b0]) | skip)
    have H' := Aside0.mk H
    clear H
    have hnb45 := NB759_764.out
    have hnc45 := NB764_759.out
    have hcz46_0 : w22.cell? ⟨gb759, 0, none⟩ = some (.int .i64 t757) := (blk_cell BK759.out 0).trans rfl
    have hcz46_1 : w22.cell? ⟨gb759, 1, none⟩ = some (.int .i64 t758) := (blk_cell BK759.out 1).trans rfl
    have hfz46_0 := blk_frozen BK759.out 0
    have hfz46_1 := blk_frozen BK759.out 1
    go_wp2
    go_meet
    case rel => exact ⟨_, (true), (by first | rfl | (simp; done) | (simp [*]; done)), H', ⟨by first | omega | exact Nat.le_refl _⟩, ⟨by (with_reducible repeat (first | apply Kd.R_alloc | apply Kd.R_drewN | apply Kd.R_drew)); exact Kd.R_mono (Kd.R_far (p := ⟨gb764, 1, none⟩) (Kd.R_far (p := ⟨gb764, 0, none⟩) (Kd.R_types HO754.out BK764.out (by decide)) (fun _ hk => hk.2) (.int .i64 t762)) (fun _ hk => hk.2) (.int .i64 t763)) (fun _ hk => trivial)⟩, ⟨bkx⟩, ⟨by (with_reducible repeat (first | refine blk_drewN ?_ _ | refine blk_drew ?_ | refine blk_alloc ?_ _)); refine blk_put (cs := #[.int .i64 t762, .int .i64 0]) ?_ 1 _ rfl; (with_reducible repeat (first | refine blk_drewN ?_ _ | refine blk_drew ?_ | refine blk_alloc ?_ _)); refine blk_put (cs := #[.int .i64 0, .int .i64 0]) ?_ 0 _ rfl; (with_reducible repeat (first | refine blk_drewN ?_ _ | refine blk_drew ?_ | refine blk_alloc ?_ _)); exact BK764.out⟩, ⟨blx⟩⟩
  case rest =>
   clear HC12
   try clear c1
   try clear c2
   try clear p2
   try clear c3
   try clear c4
   try clear c5
   try clear c6
   try clear p6
   try clear c14
   try clear c23
   try clear c25
   try clear c25b0
   try clear c25b1
   try clear c26
   try clear c26b0
   try clear c26b1
   try clear c27
   try clear c27b0
   try clear c28
   try clear c31
   try clear c31b0
   try clear c32
   try clear c35
   try clear c35b0
   try clear c36
   try clear c39
   try clear c42
   try clear c45
   try clear hcz19_0
   try clear hcz19_1
   try clear hcz24_0
   try clear hcz24_1
   try clear hcz29_0
   try clear hcz29_1
   try clear hcz30_0
   try clear hcz30_1
   try clear hcz33_0
   try clear hcz33_1
   try clear hcz34_0
   try clear hcz34_1
   try clear hcz37_0
   try clear hcz37_1
   try clear hcz38_0
   try clear hcz38_1
   try clear hcz40_0
   try clear hcz40_1
   try clear hcz41_0
   try clear hcz41_1
   try clear hcz43_0
   try clear hcz43_1
   try clear hcz44_0
   try clear hcz44_1
   try clear hcz46_0
   try clear hcz46_1
   try clear hfz19_0
   try clear hfz19_1
   try clear hfz24_0
   try clear hfz24_1
   try clear hfz29_0
   try clear hfz29_1
   try clear hfz30_0
   try clear hfz30_1
   try clear hfz33_0
   try clear hfz33_1
   try clear hfz34_0
   try clear hfz34_1
   try clear hfz37_0
   try clear hfz37_1
   try clear hfz38_0
   try clear hfz38_1
   try clear hfz40_0
   try clear hfz40_1
   try clear hfz41_0
   try clear hfz41_1
   try clear hfz43_0
   try clear hfz43_1
   try clear hfz44_0
   try clear hfz44_1
   try clear hfz46_0
   try clear hfz46_1
   obtain ⟨kq, x73_11, rfl, HA, HJ11, HO_9, BK759, BK764, HB⟩ := hcut
   cases kq with
   | zero => exact absurd HA.out (by simp [levylaw1_MoneyBands.j0])
   | succ kj11 =>
    have H := HA.out
    clear HA
    simp only [levylaw1_MoneyBands.j0] at H
    by_cases c47 : x73_11 = true
    ·subst c47
     have H1 : (some false) = some r := by rw [if_pos rfl] at H; exact H
     clear H
     have H := H1
     clear H1
     obtain rfl := Option.some.inj H
     go_wp2
     go_ret
     exact ⟨by first | rfl | (simp [errW_none, errW_some] <;> rfl) | (simp [*, errW_none, errW_some] <;> rfl), blx⟩
    ·replace c47 := Bool.eq_false_iff.mpr c47
     subst c47
     have H1 : (if (t752.length : Int) > 7 then (some true) else (levylaw1_MoneyBands.l0 kj11 (Int.tmod (wrap64 ((Int.tmod a1 9000000000) + 9000000000)) 9000000000) t752 (wrap64 (1 + (Int.tmod (wrap64 ((Int.tmod a3 9000000000) + 9000000000)) 9000000000))) ([] : List (S72)) 0 t757 t758)) = some r := by rw [if_neg (show ¬ (false = true) by decide)] at H; exact H
     clear H
     have H := H1
     clear H1
     by_cases c48 : (t752.length : Int) > 7
     ·rw [if_pos c48] at H
      have c48b0 : decide (7 < (t752.length : Int)) = true := decide_eq_true c48
      have c48b1 : decide (7 < t752.length) = true := decide_eq_true (by omega)
      clear c48
      obtain rfl := Option.some.inj H
      go_wp2
      go_ret
      exact ⟨by first | rfl | (simp [errW_none, errW_some] <;> rfl) | (simp [*, errW_none, errW_some] <;> rfl), blx⟩
     ·rw [if_neg c48] at H
      have c48b0 : decide (7 < (t752.length : Int)) = false := decide_eq_false c48
      have c48b1 : decide (7 < t752.length) = false := decide_eq_false (by omega)
      clear c48
      have H' := Aside0.mk H
      clear H
      go_wp2
      go_loopg [13, 14] kj11 (fun kq v13 v14 w' => ∃ (x13_2 : List (S72)) (x14_2 : Int), v14 = .int .i64 x14_2 ∧ Aside0 (levylaw1_MoneyBands.l0 kq (Int.tmod (wrap64 ((Int.tmod a1 9000000000) + 9000000000)) 9000000000) t752 (wrap64 (1 + (Int.tmod (wrap64 ((Int.tmod a3 9000000000) + 9000000000)) 9000000000))) x13_2 x14_2 t757 t758 = some r) ∧ Aside0 (kq ≤ kj11) ∧ Aside0 (Kd.R k72 72 w' w.heap.size (fun k_ => some k_ ≠ (v13 : Value).ownBlock) (.slice Ao16 t752.length co16) t752) ∧ Aside0 (Kd.R k72 72 w' w.heap.size (fun k_ => some k_ ≠ ((.slice Ao16 t752.length co16) : Value).ownBlock) v13 x13_2) ∧ Aside0 (w'.heap[gb759]? = some (.cells #[.int .i64 t757, .int .i64 t758] 23 (0, 0))) ∧ Aside0 (w'.heap[gb764]? = some (.cells #[.int .i64 t762, .int .i64 t763] 23 (0, 0))) ∧ Aside0 (Below w.heap.size w w'))
      case atStart => exact ⟨(([] : List (S72))), (0), (by first | rfl | (simp; done) | (simp [*]; done)), H', ⟨Nat.le_refl _⟩, ⟨by (with_reducible repeat (first | apply Kd.R_alloc | apply Kd.R_drewN | apply Kd.R_drew)); exact Kd.R_mono HO_9.out (fun _ hk => (by simp [Value.ownBlock]))⟩, ⟨by first | exact Kd.R_nil _ _ _ _ _ | exact Kd.N_nil _ _ _ _ _ | exact Kd.V_nil _ _ _ _ _ | exact Kd.Q_nil _ _ _ _ _ | exact Kd.S_nil _ _ _ _ _⟩, ⟨bkx⟩, ⟨bkx⟩, ⟨blx⟩⟩
      case round =>
       clear H'
       try clear c1
       try clear c2
       try clear p2
       try clear c3
       try clear c4
       try clear c5
       try clear c6
       try clear p6
       try clear c14
       try clear c23
       try clear c25
       try clear c25b0
       try clear c25b1
       try clear c26
       try clear c26b0
       try clear c26b1
       try clear c27
       try clear c27b0
       try clear c28
       try clear c31
       try clear c31b0
       try clear c32
       try clear c35
       try clear c35b0
       try clear c36
       try clear c39
       try clear c42
       try clear c45
       try clear c47
       try clear c48
       try clear c48b0
       try clear c48b1
       try clear hcz19_0
       try clear hcz19_1
       try clear hcz24_0
       try clear hcz24_1
       try clear hcz29_0
       try clear hcz29_1
       try clear hcz30_0
       try clear hcz30_1
       try clear hcz33_0
       try clear hcz33_1
       try clear hcz34_0
       try clear hcz34_1
       try clear hcz37_0
       try clear hcz37_1
       try clear hcz38_0
       try clear hcz38_1
       try clear hcz40_0
       try clear hcz40_1
       try clear hcz41_0
       try clear hcz41_1
       try clear hcz43_0
       try clear hcz43_1
       try clear hcz44_0
       try clear hcz44_1
       try clear hcz46_0
       try clear hcz46_1
       try clear hfz19_0
       try clear hfz19_1
       try clear hfz24_0
       try clear hfz24_1
       try clear hfz29_0
       try clear hfz29_1
       try clear hfz30_0
       try clear hfz30_1
       try clear hfz33_0
       try clear hfz33_1
       try clear hfz34_0
       try clear hfz34_1
       try clear hfz37_0
       try clear hfz37_1
       try clear hfz38_0
       try clear hfz38_1
       try clear hfz40_0
       try clear hfz40_1
       try clear hfz41_0
       try clear hfz41_1
       try clear hfz43_0
       try clear hfz43_1
       try clear hfz44_0
       try clear hfz44_1
       try clear hfz46_0
       try clear hfz46_1
       try clear p2
       try clear p6
       obtain ⟨x13_2, x14_2, rfl, HA, HK2, HO_9, HO_13, BK759, BK764, HB⟩ := hrel
       cases gk with
       | zero => exact absurd HA.out (by simp [levylaw1_MoneyBands.l0])
       | succ k2 =>
        have H := HA.out
        clear HA
        simp only [levylaw1_MoneyBands.l0] at H
        by_cases c49 : x14_2 < (t752.length : Int)
        ·rw [if_pos c49] at H
         have c49b0 : decide (x14_2 < (t752.length : Int)) = true := decide_eq_true c49
         clear c49
         by_cases c50 : 0 ≤ x14_2
         ·rw [if_pos c50] at H
          have c50b0 : decide (0 ≤ x14_2) = true := decide_eq_true c50
          clear c50
          by_cases c51 : x13_2.length < 8796093022208
          ·rw [if_pos c51] at H
           have LMc51 := Aside0.mk c51
           clear c51
           obtain ⟨y766, hy766⟩ : ∃ y_ : List (S72), y_ = (x13_2 ++ [(⟨(rd_T72 t752 x14_2).f0, (rd_T72 t752 x14_2).f1⟩ : S72)]) := ⟨_, rfl⟩
           replace H : (if (wrap64 (1 + (Int.tmod (wrap64 ((Int.tmod a3 9000000000) + 9000000000)) 9000000000))) > ((rd_T72 t752 x14_2).f0) then (if (wrap64 (x14_2 + 1)) = (t752.length : Int) then (if y766.length < 8796093022208 then (levylaw1_MoneyBands.l0 k2 (Int.tmod (wrap64 ((Int.tmod a1 9000000000) + 9000000000)) 9000000000) t752 (wrap64 (1 + (Int.tmod (wrap64 ((Int.tmod a3 9000000000) + 9000000000)) 9000000000))) (y766 ++ [(⟨(wrap64 (1 + (Int.tmod (wrap64 ((Int.tmod a3 9000000000) + 9000000000)) 9000000000))), (rd_T72 t752 x14_2).f1⟩ : S72)]) (wrap64 (x14_2 + 1)) t757 t758) else (none)) else (if 0 ≤ (wrap64 (x14_2 + 1)) then (if (wrap64 (x14_2 + 1)) < (t752.length : Int) then (if (wrap64 (1 + (Int.tmod (wrap64 ((Int.tmod a3 9000000000) + 9000000000)) 9000000000))) < ((rd_T72 t752 (wrap64 (x14_2 + 1))).f0) then (if y766.length < 8796093022208 then (levylaw1_MoneyBands.l0 k2 (Int.tmod (wrap64 ((Int.tmod a1 9000000000) + 9000000000)) 9000000000) t752 (wrap64 (1 + (Int.tmod (wrap64 ((Int.tmod a3 9000000000) + 9000000000)) 9000000000))) (y766 ++ [(⟨(wrap64 (1 + (Int.tmod (wrap64 ((Int.tmod a3 9000000000) + 9000000000)) 9000000000))), (rd_T72 t752 x14_2).f1⟩ : S72)]) (wrap64 (x14_2 + 1)) t757 t758) else (none)) else (levylaw1_MoneyBands.l0 k2 (Int.tmod (wrap64 ((Int.tmod a1 9000000000) + 9000000000)) 9000000000) t752 (wrap64 (1 + (Int.tmod (wrap64 ((Int.tmod a3 9000000000) + 9000000000)) 9000000000))) y766 (wrap64 (x14_2 + 1)) t757 t758)) else (none)) else (none))) else (levylaw1_MoneyBands.l0 k2 (Int.tmod (wrap64 ((Int.tmod a1 9000000000) + 9000000000)) 9000000000) t752 (wrap64 (1 + (Int.tmod (wrap64 ((Int.tmod a3 9000000000) + 9000000000)) 9000000000))) y766 (wrap64 (x14_2 + 1)) t757 t758)) = some r := by first | (rw [hy766]; with_reducible exact H) | (have H2_ := (Option.bind_some _ _).symm.trans H; rw [hy766]; with_reducible exact H2_) | (have H2_ := (Option.bind_some _ _).symm.trans H; with_reducible exact H2_) | with_reducible exact H | (rw [hy766]; exact H) | exact H
           have Ny766 := Aside0.mk hy766
           clear hy766
           by_cases c52 : (wrap64 (1 + (Int.tmod (wrap64 ((Int.tmod a3 9000000000) + 9000000000)) 9000000000))) > ((rd_T72 t752 x14_2).f0)
           ·rw [if_pos c52] at H
            have c52b0 : decide (((rd_T72 t752 x14_2).f0) < (wrap64 (1 + (Int.tmod (wrap64 ((Int.tmod a3 9000000000) + 9000000000)) 9000000000)))) = true := decide_eq_true c52
            clear c52
            by_cases c53 : (wrap64 (x14_2 + 1)) = (t752.length : Int)
            ·rw [if_pos c53] at H
             have c53b0 : ((wrap64 (x14_2 + 1)) == (t752.length : Int)) = true := beq_iff_eq.mpr c53
             have c53b1 : ((wrap64 (x14_2 + 1)) != (t752.length : Int)) = false := bne_eq_false_iff_eq.mpr c53
             clear c53
             by_cases c54 : y766.length < 8796093022208
             ·rw [if_pos c54] at H
              have LMc54 := Aside0.mk c54
              clear c54
              obtain ⟨y771, hy771⟩ : ∃ y_ : List (S72), y_ = (y766 ++ [(⟨(wrap64 (1 + (Int.tmod (wrap64 ((Int.tmod a3 9000000000) + 9000000000)) 9000000000))), (rd_T72 t752 x14_2).f1⟩ : S72)]) := ⟨_, rfl⟩
              replace H : (levylaw1_MoneyBands.l0 k2 (Int.tmod (wrap64 ((Int.tmod a1 9000000000) + 9000000000)) 9000000000) t752 (wrap64 (1 + (Int.tmod (wrap64 ((Int.tmod a3 9000000000) + 9000000000)) 9000000000))) y771 (wrap64 (x14_2 + 1)) t757 t758) = some r := by first | (rw [hy771]; with_reducible exact H) | (have H2_ := (Option.bind_some _ _).symm.trans H; rw [hy771]; with_reducible exact H2_) | (have H2_ := (Option.bind_some _ _).symm.trans H; with_reducible exact H2_) | with_reducible exact H | (rw [hy771]; exact H) | exact H
              have Ny771 := Aside0.mk hy771
              clear hy771
              have H' := Aside0.mk H
              clear H
              have p765 : 0 ≤ (x14_2 : Int) := odx
              have q765 : x14_2 < (t752.length : Int) := odx
              obtain ⟨ad765, e765, hx765_0, hx765_1⟩ := at_T72 (Kd.R_reads' HO_9.out).2.2 x14_2 p765 q765
              cases e765
              replace p765 := eq_true p765
              replace q765 := eq_true q765
              go_wp2_with (first | ((with_reducible refine gate_builtin (b := .append) (xs := #[.tmp 88, .tmp 93]) rfl ?_); (try (refine gate_guard (by rfl) ?_; dsimp only)); at_builtin; refine Kd.R_append k72 (w0 := w) w.heap.size rfl (.tmp 88) (.tmp 93) 43 72 (.agg #[(.int .i64 0), (.int .i64 0)]) 16 rfl Tryd.underlying43 info72 rfl (by decide) (by omega) u13 x13_2 (⟨(rd_T72 t752 x14_2).f0, (rd_T72 t752 x14_2).f1⟩ : S72) [.int .i64 ((rd_T72 t752 x14_2).f0), .int .i64 ((rd_T72 t752 x14_2).f1)] (fun k_ => some k_ ≠ (.slice (some ad765) t752.length co16 : Value).ownBlock) (fun _ => False) rfl rfl ?aP (fun _ hk => hk.elim) ?aF ?aO ?aB ?aS ?aL ?_; (case aP => exact k72_mkM _ _ _ (⟨(rd_T72 t752 x14_2).f0, (rd_T72 t752 x14_2).f1⟩ : S72)); (case aB => exact blx); (case aF => exact (fun k_ hk => Kd.fresh' (Kd.R_lt (by (with_reducible repeat (first | apply Kd.R_alloc | apply Kd.R_drewN | apply Kd.R_drew)); exact HO_9.out)) k_ hk)); (case aO => exact (by (with_reducible repeat (first | apply Kd.R_alloc | apply Kd.R_drewN | apply Kd.R_drew)); exact HO_13.out)); (case aS => exact (below_size blx)); (case aL => have := LMc51.out; omega); intro v767 w55 ho hb hg hat; rw [← Ny766.out] at ho; have n0_ := Aside0.mk (Kd.R_after (ok := (fun _ => True)) (by (with_reducible repeat (first | apply Kd.R_alloc | apply Kd.R_drewN | apply Kd.R_drew)); exact Kd.R_mono HO_9.out (fun _ hk => ⟨trivial, hk⟩)) hg hat); have n1_ := Aside0.mk (blk_grown (g := gb759) (o := .cells #[.int .i64 t757, .int .i64 t758] 23 (0, 0)) bkx hg (Kd.R_ne HO_13.out BK759.out (by decide))); have n2_ := Aside0.mk (blk_grown (g := gb764) (o := .cells #[.int .i64 t762, .int .i64 t763] 23 (0, 0)) bkx hg (Kd.R_ne HO_13.out BK764.out (by decide))); have n3_ := Aside0.mk (hb); have n4_ := Aside0.mk (ho); clear HO_9; clear BK759; clear BK764; clear HB; clear HO_13; have HO_9 := n0_; have BK759 := n1_; have BK764 := n2_; have HB := n3_; have HO768 := n4_; clear n0_ n1_ n2_ n3_ n4_; clear ho hb hg hat; have p769 : 0 ≤ (x14_2 : Int) := odx; have q769 : x14_2 < (t752.length : Int) := odx; obtain ⟨ad769, e769, hx769_0, hx769_1⟩ := at_T72 (Kd.R_reads' HO_9.out).2.2 x14_2 p769 q769; obtain rfl : ad765 = ad769 := (by injection e769); replace p769 := eq_true p769; replace q769 := eq_true q769; have p770 : 0 ≤ (x14_2 : Int) := odx; have q770 : x14_2 < (t752.length : Int) := odx; obtain ⟨ad770, e770, hx770_0, hx770_1⟩ := at_T72 (Kd.R_reads' HO_9.out).2.2 x14_2 p770 q770; obtain rfl : ad765 = ad770 := (by injection e770); replace p770 := eq_true p770; replace q770 := eq_true q770) | ((with_reducible refine gate_builtin (b := .append) (xs := #[.tmp 120, .tmp 128]) rfl ?_); (try (refine gate_guard (by rfl) ?_; dsimp only)); at_builtin; refine Kd.R_append k72 (w0 := w) w.heap.size rfl (.tmp 120) (.tmp 128) 43 72 (.agg #[(.int .i64 0), (.int .i64 0)]) 16 rfl Tryd.underlying43 info72 rfl (by decide) (by omega) v767 y766 (⟨(wrap64 (1 + (Int.tmod (wrap64 ((Int.tmod a3 9000000000) + 9000000000)) 9000000000))), (rd_T72 t752 x14_2).f1⟩ : S72) [.int .i64 (wrap64 (1 + (Int.tmod (wrap64 ((Int.tmod a3 9000000000) + 9000000000)) 9000000000))), .int .i64 ((rd_T72 t752 x14_2).f1)] (fun k_ => some k_ ≠ (.slice (some ad765) t752.length co16 : Value).ownBlock) (fun _ => False) rfl rfl ?aP (fun _ hk => hk.elim) ?aF ?aO ?aB ?aS ?aL ?_; (case aP => exact k72_mkM _ _ _ (⟨(wrap64 (1 + (Int.tmod (wrap64 ((Int.tmod a3 9000000000) + 9000000000)) 9000000000))), (rd_T72 t752 x14_2).f1⟩ : S72)); (case aB => exact blx); (case aF => exact (fun k_ hk => Kd.fresh' (Kd.R_lt (by (with_reducible repeat (first | apply Kd.R_alloc | apply Kd.R_drewN | apply Kd.R_drew)); exact HO_9.out)) k_ hk)); (case aO => exact (by (with_reducible repeat (first | apply Kd.R_alloc | apply Kd.R_drewN | apply Kd.R_drew)); exact HO768.out)); (case aS => exact (below_size blx)); (case aL => have := LMc54.out; omega); intro v772 w56 ho hb hg hat; rw [← Ny771.out] at ho; have n0_ := Aside0.mk (Kd.R_after (ok := (fun _ => True)) (by (with_reducible repeat (first | apply Kd.R_alloc | apply Kd.R_drewN | apply Kd.R_drew)); exact HO_9.out) hg hat); have n1_ := Aside0.mk (blk_grown (g := gb759) (o := .cells #[.int .i64 t757, .int .i64 t758] 23 (0, 0)) bkx hg (Kd.R_ne HO768.out BK759.out (by decide))); have n2_ := Aside0.mk (blk_grown (g := gb764) (o := .cells #[.int .i64 t762, .int .i64 t763] 23 (0, 0)) bkx hg (Kd.R_ne HO768.out BK764.out (by decide))); have n3_ := Aside0.mk (hb); have n4_ := Aside0.mk (ho); clear HO_9; clear BK759; clear BK764; clear HB; clear HO768; have HO_9 := n0_; have BK759 := n1_; have BK764 := n2_; have HB := n3_; have HO773 := n4_; clear n0_ n1_ n2_ n3_ n4_; clear ho hb hg hat))
              go_roundg k2
              case measure => have := HJ11.out; have := HK2.out; omega
              case rel => exact ⟨(y771), (wrap64 (x14_2 + 1)), (by first | rfl | (simp; done) | (simp [*]; done)), H', ⟨by have := HJ11.out; have := HK2.out; omega⟩, ⟨by (with_reducible repeat (first | apply Kd.R_alloc | apply Kd.R_drewN | apply Kd.R_drew)); exact Kd.R_mono HO_9.out (fun _ hk => hk.2)⟩, ⟨by (with_reducible repeat (first | apply Kd.R_alloc | apply Kd.R_drewN | apply Kd.R_drew)); exact HO773.out⟩, ⟨bkx⟩, ⟨bkx⟩, ⟨blx⟩⟩
             ·rw [if_neg c54] at H
              exact absurd H (by simp)
            ·rw [if_neg c53] at H
             have c53b0 : ((wrap64 (x14_2 + 1)) == (t752.length : Int)) = false := beq_eq_false_iff_ne.mpr c53
             have c53b1 : ((wrap64 (x14_2 + 1)) != (t752.length : Int)) = true := bne_iff_ne.mpr c53
             obtain ⟨ji57, hji57⟩ : ∃ j_ : Int, (wrap64 (x14_2 + 1)) = j_ := ⟨_, rfl⟩
             replace H : (if 0 ≤ (ji57) then (if (ji57) < (t752.length : Int) then (if (wrap64 (1 + (Int.tmod (wrap64 ((Int.tmod a3 9000000000) + 9000000000)) 9000000000))) < ((rd_T72 t752 (ji57)).f0) then (if y766.length < 8796093022208 then (levylaw1_MoneyBands.l0 k2 (Int.tmod (wrap64 ((Int.tmod a1 9000000000) + 9000000000)) 9000000000) t752 (wrap64 (1 + (Int.tmod (wrap64 ((Int.tmod a3 9000000000) + 9000000000)) 9000000000))) (y766 ++ [(⟨(wrap64 (1 + (Int.tmod (wrap64 ((Int.tmod a3 9000000000) + 9000000000)) 9000000000))), (rd_T72 t752 x14_2).f1⟩ : S72)]) ji57 t757 t758) else (none)) else (levylaw1_MoneyBands.l0 k2 (Int.tmod (wrap64 ((Int.tmod a1 9000000000) + 9000000000)) 9000000000) t752 (wrap64 (1 + (Int.tmod (wrap64 ((Int.tmod a3 9000000000) + 9000000000)) 9000000000))) y766 ji57 t757 t758)) else (none)) else (none)) = some r := by first | (rw [hji57] at H; exact H) | (simp only [hji57] at H ⊢; exact H)
             (try rw [hji57] at c53b0)
             (try rw [hji57] at c53b1)
             have hji57w : (IntKind.i64.wrap (x14_2 + 1)) = ji57 := (i64_w _).trans hji57
             by_cases c58 : 0 ≤ (ji57)
             ·rw [if_pos c58] at H
              have c58b0 : decide (0 ≤ (ji57)) = true := decide_eq_true c58
              clear c58
              by_cases c59 : (ji57) < (t752.length : Int)
              ·rw [if_pos c59] at H
               have c59b0 : decide ((ji57) < (t752.length : Int)) = true := decide_eq_true c59
               clear c59
               by_cases c60 : (wrap64 (1 + (Int.tmod (wrap64 ((Int.tmod a3 9000000000) + 9000000000)) 9000000000))) < ((rd_T72 t752 (ji57)).f0)
               ·rw [if_pos c60] at H
                have c60b0 : decide ((wrap64 (1 + (Int.tmod (wrap64 ((Int.tmod a3 9000000000) + 9000000000)) 9000000000))) < ((rd_T72 t752 (ji57)).f0)) = true := decide_eq_true c60
                clear c60
                by_cases c61 : y766.length < 8796093022208
                ·rw [if_pos c61] at H
                 have LMc61 := Aside0.mk c61
                 clear c61
                 obtain ⟨y776, hy776⟩ : ∃ y_ : List (S72), y_ = (y766 ++ [(⟨(wrap64 (1 + (Int.tmod (wrap64 ((Int.tmod a3 9000000000) + 9000000000)) 9000000000))), (rd_T72 t752 x14_2).f1⟩ : S72)]) := ⟨_, rfl⟩
                 replace H : (levylaw1_MoneyBands.l0 k2 (Int.tmod (wrap64 ((Int.tmod a1 9000000000) + 9000000000)) 9000000000) t752 (wrap64 (1 + (Int.tmod (wrap64 ((Int.tmod a3 9000000000) + 9000000000)) 9000000000))) y776 ji57 t757 t758) = some r := by first | (rw [hy776]; with_reducible exact H) | (have H2_ := (Option.bind_some _ _).symm.trans H; rw [hy776]; with_reducible exact H2_) | (have H2_ := (Option.bind_some _ _).symm.trans H; with_reducible exact H2_) | with_reducible exact H | (rw [hy776]; exact H) | exact H
                 have Ny776 := Aside0.mk hy776
                 clear hy776
                 have H' := Aside0.mk H
                 clear H
                 have p765 : 0 ≤ (x14_2 : Int) := odx
                 have q765 : x14_2 < (t752.length : Int) := odx
                 obtain ⟨ad765, e765, hx765_0, hx765_1⟩ := at_T72 (Kd.R_reads' HO_9.out).2.2 x14_2 p765 q765
                 cases e765
                 replace p765 := eq_true p765
                 replace q765 := eq_true q765
                 go_wp2_with (first | ((with_reducible refine gate_builtin (b := .append) (xs := #[.tmp 88, .tmp 93]) rfl ?_); (try (refine gate_guard (by rfl) ?_; dsimp only)); at_builtin; refine Kd.R_append k72 (w0 := w) w.heap.size rfl (.tmp 88) (.tmp 93) 43 72 (.agg #[(.int .i64 0), (.int .i64 0)]) 16 rfl Tryd.underlying43 info72 rfl (by decide) (by omega) u13 x13_2 (⟨(rd_T72 t752 x14_2).f0, (rd_T72 t752 x14_2).f1⟩ : S72) [.int .i64 ((rd_T72 t752 x14_2).f0), .int .i64 ((rd_T72 t752 x14_2).f1)] (fun k_ => some k_ ≠ (.slice (some ad765) t752.length co16 : Value).ownBlock) (fun _ => False) rfl rfl ?aP (fun _ hk => hk.elim) ?aF ?aO ?aB ?aS ?aL ?_; (case aP => exact k72_mkM _ _ _ (⟨(rd_T72 t752 x14_2).f0, (rd_T72 t752 x14_2).f1⟩ : S72)); (case aB => exact blx); (case aF => exact (fun k_ hk => Kd.fresh' (Kd.R_lt (by (with_reducible repeat (first | apply Kd.R_alloc | apply Kd.R_drewN | apply Kd.R_drew)); exact HO_9.out)) k_ hk)); (case aO => exact (by (with_reducible repeat (first | apply Kd.R_alloc | apply Kd.R_drewN | apply Kd.R_drew)); exact HO_13.out)); (case aS => exact (below_size blx)); (case aL => have := LMc51.out; omega); intro v767 w62 ho hb hg hat; rw [← Ny766.out] at ho; have n0_ := Aside0.mk (Kd.R_after (ok := (fun _ => True)) (by (with_reducible repeat (first | apply Kd.R_alloc | apply Kd.R_drewN | apply Kd.R_drew)); exact Kd.R_mono HO_9.out (fun _ hk => ⟨trivial, hk⟩)) hg hat); have n1_ := Aside0.mk (blk_grown (g := gb759) (o := .cells #[.int .i64 t757, .int .i64 t758] 23 (0, 0)) bkx hg (Kd.R_ne HO_13.out BK759.out (by decide))); have n2_ := Aside0.mk (blk_grown (g := gb764) (o := .cells #[.int .i64 t762, .int .i64 t763] 23 (0, 0)) bkx hg (Kd.R_ne HO_13.out BK764.out (by decide))); have n3_ := Aside0.mk (hb); have n4_ := Aside0.mk (ho); clear HO_9; clear BK759; clear BK764; clear HB; clear HO_13; have HO_9 := n0_; have BK759 := n1_; have BK764 := n2_; have HB := n3_; have HO768 := n4_; clear n0_ n1_ n2_ n3_ n4_; clear ho hb hg hat; have p769 : 0 ≤ (x14_2 : Int) := odx; have q769 : x14_2 < (t752.length : Int) := odx; obtain ⟨ad769, e769, hx769_0, hx769_1⟩ := at_T72 (Kd.R_reads' HO_9.out).2.2 x14_2 p769 q769; obtain rfl : ad765 = ad769 := (by injection e769); replace p769 := eq_true p769; replace q769 := eq_true q769; have p774 : 0 ≤ ((ji57) : Int) := odx; have q774 : (ji57) < (t752.length : Int) := odx; obtain ⟨ad774, e774, hx774_0, hx774_1⟩ := at_T72 (Kd.R_reads' HO_9.out).2.2 (ji57) p774 q774; obtain rfl : ad765 = ad774 := (by injection e774); replace p774 := eq_true p774; replace q774 := eq_true q774; have p775 : 0 ≤ (x14_2 : Int) := odx; have q775 : x14_2 < (t752.length : Int) := odx; obtain ⟨ad775, e775, hx775_0, hx775_1⟩ := at_T72 (Kd.R_reads' HO_9.out).2.2 x14_2 p775 q775; obtain rfl : ad765 = ad775 := (by injection e775); replace p775 := eq_true p775; replace q775 := eq_true q775) | ((with_reducible refine gate_builtin (b := .append) (xs := #[.tmp 120, .tmp 128]) rfl ?_); (try (refine gate_guard (by rfl) ?_; dsimp only)); at_builtin; refine Kd.R_append k72 (w0 := w) w.heap.size rfl (.tmp 120) (.tmp 128) 43 72 (.agg #[(.int .i64 0), (.int .i64 0)]) 16 rfl Tryd.underlying43 info72 rfl (by decide) (by omega) v767 y766 (⟨(wrap64 (1 + (Int.tmod (wrap64 ((Int.tmod a3 9000000000) + 9000000000)) 9000000000))), (rd_T72 t752 x14_2).f1⟩ : S72) [.int .i64 (wrap64 (1 + (Int.tmod (wrap64 ((Int.tmod a3 9000000000) + 9000000000)) 9000000000))), .int .i64 ((rd_T72 t752 x14_2).f1)] (fun k_ => some k_ ≠ (.slice (some ad765) t752.length co16 : Value).ownBlock) (fun _ => False) rfl rfl ?aP (fun _ hk => hk.elim) ?aF ?aO ?aB ?aS ?aL ?_; (case aP => exact k72_mkM _ _ _ (⟨(wrap64 (1 + (Int.tmod (wrap64 ((Int.tmod a3 9000000000) + 9000000000)) 9000000000))), (rd_T72 t752 x14_2).f1⟩ : S72)); (case aB => exact blx); (case aF => exact (fun k_ hk => Kd.fresh' (Kd.R_lt (by (with_reducible repeat (first | apply Kd.R_alloc | apply Kd.R_drewN | apply Kd.R_drew)); exact HO_9.out)) k_ hk)); (case aO => exact (by (with_reducible repeat (first | apply Kd.R_alloc | apply Kd.R_drewN | apply Kd.R_drew)); exact HO768.out)); (case aS => exact (below_size blx)); (case aL => have := LMc61.out; omega); intro v777 w63 ho hb hg hat; rw [← Ny776.out] at ho; have n0_ := Aside0.mk (Kd.R_after (ok := (fun _ => True)) (by (with_reducible repeat (first | apply Kd.R_alloc | apply Kd.R_drewN | apply Kd.R_drew)); exact HO_9.out) hg hat); have n1_ := Aside0.mk (blk_grown (g := gb759) (o := .cells #[.int .i64 t757, .int .i64 t758] 23 (0, 0)) bkx hg (Kd.R_ne HO768.out BK759.out (by decide))); have n2_ := Aside0.mk (blk_grown (g := gb764) (o := .cells #[.int .i64 t762, .int .i64 t763] 23 (0, 0)) bkx hg (Kd.R_ne HO768.out BK764.out (by decide))); have n3_ := Aside0.mk (hb); have n4_ := Aside0.mk (ho); clear HO_9; clear BK759; clear BK764; clear HB; clear HO768; have HO_9 := n0_; have BK759 := n1_; have BK764 := n2_; have HB := n3_; have HO778 := n4_; clear n0_ n1_ n2_ n3_ n4_; clear ho hb hg hat))
                 go_roundg k2
                 case measure => have := HJ11.out; have := HK2.out; omega
                 case rel => exact ⟨(y776), (ji57), (by first | rfl | (simp; done) | (simp only [← hji57] <;> (first | rfl | simp)) | (simp [*]; done)), H', ⟨by have := HJ11.out; have := HK2.out; omega⟩, ⟨by (with_reducible repeat (first | apply Kd.R_alloc | apply Kd.R_drewN | apply Kd.R_drew)); exact Kd.R_mono HO_9.out (fun _ hk => hk.2)⟩, ⟨by (with_reducible repeat (first | apply Kd.R_alloc | apply Kd.R_drewN | apply Kd.R_drew)); exact HO778.out⟩, ⟨bkx⟩, ⟨bkx⟩, ⟨blx⟩⟩
                ·rw [if_neg c61] at H
                 exact absurd H (by simp)
               ·rw [if_neg c60] at H
                have c60b0 : decide ((wrap64 (1 + (Int.tmod (wrap64 ((Int.tmod a3 9000000000) + 9000000000)) 9000000000))) < ((rd_T72 t752 (ji57)).f0)) = false := decide_eq_false c60
                clear c60
                have H' := Aside0.mk H
                clear H
                have p765 : 0 ≤ (x14_2 : Int) := odx
                have q765 : x14_2 < (t752.length : Int) := odx
                obtain ⟨ad765, e765, hx765_0, hx765_1⟩ := at_T72 (Kd.R_reads' HO_9.out).2.2 x14_2 p765 q765
                cases e765
                replace p765 := eq_true p765
                replace q765 := eq_true q765
                go_wp2_with (first | ((with_reducible refine gate_builtin (b := .append) (xs := #[.tmp 88, .tmp 93]) rfl ?_); (try (refine gate_guard (by rfl) ?_; dsimp only)); at_builtin; refine Kd.R_append k72 (w0 := w) w.heap.size rfl (.tmp 88) (.tmp 93) 43 72 (.agg #[(.int .i64 0), (.int .i64 0)]) 16 rfl Tryd.underlying43 info72 rfl (by decide) (by omega) u13 x13_2 (⟨(rd_T72 t752 x14_2).f0, (rd_T72 t752 x14_2).f1⟩ : S72) [.int .i64 ((rd_T72 t752 x14_2).f0), .int .i64 ((rd_T72 t752 x14_2).f1)] (fun k_ => some k_ ≠ (.slice (some ad765) t752.length co16 : Value).ownBlock) (fun _ => False) rfl rfl ?aP (fun _ hk => hk.elim) ?aF ?aO ?aB ?aS ?aL ?_; (case aP => exact k72_mkM _ _ _ (⟨(rd_T72 t752 x14_2).f0, (rd_T72 t752 x14_2).f1⟩ : S72)); (case aB => exact blx); (case aF => exact (fun k_ hk => Kd.fresh' (Kd.R_lt (by (with_reducible repeat (first | apply Kd.R_alloc | apply Kd.R_drewN | apply Kd.R_drew)); exact HO_9.out)) k_ hk)); (case aO => exact (by (with_reducible repeat (first | apply Kd.R_alloc | apply Kd.R_drewN | apply Kd.R_drew)); exact HO_13.out)); (case aS => exact (below_size blx)); (case aL => have := LMc51.out; omega); intro v767 w64 ho hb hg hat; rw [← Ny766.out] at ho; have n0_ := Aside0.mk (Kd.R_after (ok := (fun _ => True)) (by (with_reducible repeat (first | apply Kd.R_alloc | apply Kd.R_drewN | apply Kd.R_drew)); exact Kd.R_mono HO_9.out (fun _ hk => ⟨trivial, hk⟩)) hg hat); have n1_ := Aside0.mk (blk_grown (g := gb759) (o := .cells #[.int .i64 t757, .int .i64 t758] 23 (0, 0)) bkx hg (Kd.R_ne HO_13.out BK759.out (by decide))); have n2_ := Aside0.mk (blk_grown (g := gb764) (o := .cells #[.int .i64 t762, .int .i64 t763] 23 (0, 0)) bkx hg (Kd.R_ne HO_13.out BK764.out (by decide))); have n3_ := Aside0.mk (hb); have n4_ := Aside0.mk (ho); clear HO_9; clear BK759; clear BK764; clear HB; clear HO_13; have HO_9 := n0_; have BK759 := n1_; have BK764 := n2_; have HB := n3_; have HO768 := n4_; clear n0_ n1_ n2_ n3_ n4_; clear ho hb hg hat; have p769 : 0 ≤ (x14_2 : Int) := odx; have q769 : x14_2 < (t752.length : Int) := odx; obtain ⟨ad769, e769, hx769_0, hx769_1⟩ := at_T72 (Kd.R_reads' HO_9.out).2.2 x14_2 p769 q769; obtain rfl : ad765 = ad769 := (by injection e769); replace p769 := eq_true p769; replace q769 := eq_true q769; have p774 : 0 ≤ ((ji57) : Int) := odx; have q774 : (ji57) < (t752.length : Int) := odx; obtain ⟨ad774, e774, hx774_0, hx774_1⟩ := at_T72 (Kd.R_reads' HO_9.out).2.2 (ji57) p774 q774; obtain rfl : ad765 = ad774 := (by injection e774); replace p774 := eq_true p774; replace q774 := eq_true q774))
                go_roundg k2
                case measure => have := HJ11.out; have := HK2.out; omega
                case rel => exact ⟨(y766), (ji57), (by first | rfl | (simp; done) | (simp only [← hji57] <;> (first | rfl | simp)) | (simp [*]; done)), H', ⟨by have := HJ11.out; have := HK2.out; omega⟩, ⟨by (with_reducible repeat (first | apply Kd.R_alloc | apply Kd.R_drewN | apply Kd.R_drew)); exact Kd.R_mono HO_9.out (fun _ hk => hk.2)⟩, ⟨by (with_reducible repeat (first | apply Kd.R_alloc | apply Kd.R_drewN | apply Kd.R_drew)); exact HO768.out⟩, ⟨bkx⟩, ⟨bkx⟩, ⟨blx⟩⟩
              ·rw [if_neg c59] at H
               exact absurd H (by simp)
             ·rw [if_neg c58] at H
              exact absurd H (by simp)
           ·rw [if_neg c52] at H
            have c52b0 : decide (((rd_T72 t752 x14_2).f0) < (wrap64 (1 + (Int.tmod (wrap64 ((Int.tmod a3 9000000000) + 9000000000)) 9000000000)))) = false := decide_eq_false c52
            clear c52
            have H' := Aside0.mk H
            clear H
            have p765 : 0 ≤ (x14_2 : Int) := odx
            have q765 : x14_2 < (t752.length : Int) := odx
            obtain ⟨ad765, e765, hx765_0, hx765_1⟩ := at_T72 (Kd.R_reads' HO_9.out).2.2 x14_2 p765 q765
            cases e765
            replace p765 := eq_true p765
            replace q765 := eq_true q765
            go_wp2_with (first | ((with_reducible refine gate_builtin (b := .append) (xs := #[.tmp 88, .tmp 93]) rfl ?_); (try (refine gate_guard (by rfl) ?_; dsimp only)); at_builtin; refine Kd.R_append k72 (w0 := w) w.heap.size rfl (.tmp 88) (.tmp 93) 43 72 (.agg #[(.int .i64 0), (.int .i64 0)]) 16 rfl Tryd.underlying43 info72 rfl (by decide) (by omega) u13 x13_2 (⟨(rd_T72 t752 x14_2).f0, (rd_T72 t752 x14_2).f1⟩ : S72) [.int .i64 ((rd_T72 t752 x14_2).f0), .int .i64 ((rd_T72 t752 x14_2).f1)] (fun k_ => some k_ ≠ (.slice (some ad765) t752.length co16 : Value).ownBlock) (fun _ => False) rfl rfl ?aP (fun _ hk => hk.elim) ?aF ?aO ?aB ?aS ?aL ?_; (case aP => exact k72_mkM _ _ _ (⟨(rd_T72 t752 x14_2).f0, (rd_T72 t752 x14_2).f1⟩ : S72)); (case aB => exact blx); (case aF => exact (fun k_ hk => Kd.fresh' (Kd.R_lt (by (with_reducible repeat (first | apply Kd.R_alloc | apply Kd.R_drewN | apply Kd.R_drew)); exact HO_9.out)) k_ hk)); (case aO => exact (by (with_reducible repeat (first | apply Kd.R_alloc | apply Kd.R_drewN | apply Kd.R_drew)); exact HO_13.out)); (case aS => exact (below_size blx)); (case aL => have := LMc51.out; omega); intro v767 w65 ho hb hg hat; rw [← Ny766.out] at ho; have n0_ := Aside0.mk (Kd.R_after (ok := (fun _ => True)) (by (with_reducible repeat (first | apply Kd.R_alloc | apply Kd.R_drewN | apply Kd.R_drew)); exact Kd.R_mono HO_9.out (fun _ hk => ⟨trivial, hk⟩)) hg hat); have n1_ := Aside0.mk (blk_grown (g := gb759) (o := .cells #[.int .i64 t757, .int .i64 t758] 23 (0, 0)) bkx hg (Kd.R_ne HO_13.out BK759.out (by decide))); have n2_ := Aside0.mk (blk_grown (g := gb764) (o := .cells #[.int .i64 t762, .int .i64 t763] 23 (0, 0)) bkx hg (Kd.R_ne HO_13.out BK764.out (by decide))); have n3_ := Aside0.mk (hb); have n4_ := Aside0.mk (ho); clear HO_9; clear BK759; clear BK764; clear HB; clear HO_13; have HO_9 := n0_; have BK759 := n1_; have BK764 := n2_; have HB := n3_; have HO768 := n4_; clear n0_ n1_ n2_ n3_ n4_; clear ho hb hg hat; have p769 : 0 ≤ (x14_2 : Int) := odx; have q769 : x14_2 < (t752.length : Int) := odx; obtain ⟨ad769, e769, hx769_0, hx769_1⟩ := at_T72 (Kd.R_reads' HO_9.out).2.2 x14_2 p769 q769; obtain rfl : ad765 = ad769 := (by injection e769); replace p769 := eq_true p769; replace q769 := eq_true q769))
            go_roundg k2
            case measure => have := HJ11.out; have := HK2.out; omega
            case rel => exact ⟨(y766), (wrap64 (x14_2 + 1)), (by first | rfl | (simp; done) | (simp [*]; done)), H', ⟨by have := HJ11.out; have := HK2.out; omega⟩, ⟨by (with_reducible repeat (first | apply Kd.R_alloc | apply Kd.R_drewN | apply Kd.R_drew)); exact Kd.R_mono HO_9.out (fun _ hk => hk.2)⟩, ⟨by (with_reducible repeat (first | apply Kd.R_alloc | apply Kd.R_drewN | apply Kd.R_drew)); exact HO768.out⟩, ⟨bkx⟩, ⟨bkx⟩, ⟨blx⟩⟩
          ·rw [if_neg c51] at H
           exact absurd H (by simp)
         ·rw [if_neg c50] at H
          exact absurd H (by simp)
        ·rw [if_neg c49] at H
         have c49b0 : decide (x14_2 < (t752.length : Int)) = false := decide_eq_false c49
         clear c49
         replace H := Option.bind_eq_some_iff.mp H
         obtain ⟨⟨t779, t780⟩, A660, H⟩ := H
         replace H : ((money_Bracket.f k2 x13_2 t779 t780).bind fun bt781 => (some (bt781.1 == t757 && (bt781.2 == t758)))) = some r := H
         have A66 := Aside0.mk A660
         clear A660
         replace H := Option.bind_eq_some_iff.mp H
         obtain ⟨⟨t781, t782⟩, A670, H⟩ := H
         replace H : (some (t781 == t757 && (t782 == t758))) = some r := H
         have A67 := Aside0.mk A670
         clear A670
         obtain rfl := Option.some.inj H
         try go_wp2
         have n0_ := Aside0.mk (Kd.R_drew HO_9.out)
         have n1_ := Aside0.mk (Kd.R_drew HO_13.out)
         have n2_ := Aside0.mk (blk_drew BK759.out)
         have n3_ := Aside0.mk (blk_drew BK764.out)
         have n4_ := Aside0.mk (below_drew1 HB.out)
         clear HO_9
         clear HO_13
         clear BK759
         clear BK764
         clear HB
         have HO_9 := n0_
         have HO_13 := n1_
         have BK759 := n2_
         have BK764 := n3_
         have HB := n4_
         clear n0_ n1_ n2_ n3_ n4_
         refine start_ (n := 7) (S := fun w' => w'.cell? ⟨gb759, 0, none⟩ = some (.int .i64 t757) ∧ w'.cell? ⟨gb759, 1, none⟩ = some (.int .i64 t758)) (ds := []) #[false, false, false, false, false, false, false] (by kernel_rfl) rfl rfl ⟨(blk_cell BK759.out 0).trans rfl, (blk_cell BK759.out 1).trans rfl⟩ (fun hHeld => ?_)
         generalize wr.drew = w68 at HO_9 HO_13 BK759 BK764 HB hHeld ⊢
         refine pure_ (i := 0) (N := some 130) (v := ?_) (a' := ?_) #[true, false, false, false, false, false, false] rfl rfl (by kernel_rfl) (fun _ _ _ h => h) (Or.inl ⟨by rfl, ?_⟩) ?_ ?_
         rotate_left
         ·intro w'
          go_simp
          with_reducible rfl
         rotate_left
         ·simp only [Act.put, List.setIfInBounds_toArray, List.set_cons_zero, List.set_cons_succ, i64_w, i32_w]
          rfl
         refine pure_ (i := 1) (N := some 131) (v := ?_) (a' := ?_) #[true, true, false, false, false, false, false] rfl rfl (by kernel_rfl) (fun _ _ _ h => h) (Or.inl ⟨by rfl, ?_⟩) ?_ ?_
         rotate_left
         ·intro w'
          go_simp
          with_reducible rfl
         rotate_left
         ·simp only [Act.put, List.setIfInBounds_toArray, List.set_cons_zero, List.set_cons_succ, i64_w, i32_w]
          rfl
         refine take_ (i := 4) (N := some 134) (v := ?_) (a' := ?_) #[true, true, false, false, true, false, false] rfl rfl (by kernel_rfl) (fun _ _ _ h => h) (Or.inl ⟨by rfl, ?_⟩) hHeld ?_ ?_
         rotate_left
         ·rintro w' ⟨s0, s1⟩
          go_simp
          with_reducible rfl
         rotate_left
         ·simp only [Act.put, List.setIfInBounds_toArray, List.set_cons_zero, List.set_cons_succ, i64_w, i32_w]
          rfl
         refine one_ (i := 2) (N := some 132) #[true, true, true, false, true, false, false] rfl rfl (by kernel_rfl) (by decide) (fun K hK => ?_)
         refine goes_ Tryd.func52 (by kernel_rfl) rfl #[.int .i64 (Int.tmod (wrap64 ((Int.tmod a1 9000000000) + 9000000000)) 9000000000)] (by rfl) rfl rfl agx ?_
         with_reducible refine (levylaw1_c.calls (Int.tmod (wrap64 ((Int.tmod a1 9000000000) + 9000000000)) 9000000000) t779 t780 _ A66.out).mono ?_
         rintro e w69 ⟨rfl, hb⟩
         refine ⟨_, rfl, ?_⟩
         have n0_ := Aside0.mk (Kd.R_below (by (with_reducible repeat (first | apply Kd.R_alloc | apply Kd.R_drewN | apply Kd.R_drew)); exact HO_9.out) hb)
         have n1_ := Aside0.mk (Kd.R_below (by (with_reducible repeat (first | apply Kd.R_alloc | apply Kd.R_drewN | apply Kd.R_drew)); exact HO_13.out) hb)
         have n2_ := Aside0.mk (blk_below (g := gb759) (o := .cells #[.int .i64 t757, .int .i64 t758] 23 (0, 0)) bkx hb)
         have n3_ := Aside0.mk (blk_below (g := gb764) (o := .cells #[.int .i64 t762, .int .i64 t763] 23 (0, 0)) bkx hb)
         have n4_ := Aside0.mk (below_step blx hb)
         clear HO_9
         clear HO_13
         clear BK759
         clear BK764
         clear HB
         have HO_9 := n0_
         have HO_13 := n1_
         have BK759 := n2_
         have BK764 := n3_
         have HB := n4_
         clear n0_ n1_ n2_ n3_ n4_
         (try clear hb)
         (try clear hb2)
         (try clear hk)
         (try clear hi)
         obtain ⟨Ao70, co70, eo70⟩ := Kd.R_slice HO_13.out
         (first | subst eo70 | (injection eo70 with f1_ f2_ f3_; have f4_ := f1_.symm; have f5_ := f3_.symm; clear f1_ f2_ f3_; subst f4_; subst f5_))
         refine hK.out _ _ ⟨(blk_cell BK759.out 0).trans rfl, (blk_cell BK759.out 1).trans rfl⟩ (fun hHeld => ?_)
         clear hK K
         refine norm_ (a' := ?_) ?_ ?_
         rotate_left
         ·show Act.put _ (some 132) _ = _
          simp only [Act.put, List.setIfInBounds_toArray, List.set_cons_zero, List.set_cons_succ, i64_w, i32_w]
          rfl
         refine one_ (i := 3) (N := some 133) #[true, true, true, true, true, false, false] rfl rfl (by kernel_rfl) (by decide) (fun K hK => ?_)
         refine goes_ Tryd.func45 (by kernel_rfl) rfl #[.slice Ao70 x13_2.length co70, .agg #[.int .i64 t779, .int .i64 t780]] (by rfl) rfl rfl agx ?_
         with_reducible refine (money_Bracket.calls k2 _ _ x13_2 t779 t780 t781 t782 _ ?side1 ?side2 A67.out (by first | exact HG0.out | exact Kd.C_below HG0.out blx)).mono ?_
         (case side1 => repeat (first | exact (Kd.R_reads' HO_13.out).2.2 | (with_reducible refine Kd.C_alloc ?_ _) | (with_reducible refine Kd.C_drewN ?_ _) | (with_reducible refine Kd.C_drew ?_)))
         (case side2 => exact (Kd.R_reads' HO_13.out).2.1)
         rintro e w71 ⟨rfl, hb⟩
         refine ⟨_, rfl, ?_⟩
         have n0_ := Aside0.mk (Kd.R_below (by (with_reducible repeat (first | apply Kd.R_alloc | apply Kd.R_drewN | apply Kd.R_drew)); exact HO_9.out) hb)
         have n1_ := Aside0.mk (Kd.R_below (by (with_reducible repeat (first | apply Kd.R_alloc | apply Kd.R_drewN | apply Kd.R_drew)); exact HO_13.out) hb)
         have n2_ := Aside0.mk (blk_below (g := gb759) (o := .cells #[.int .i64 t757, .int .i64 t758] 23 (0, 0)) bkx hb)
         have n3_ := Aside0.mk (blk_below (g := gb764) (o := .cells #[.int .i64 t762, .int .i64 t763] 23 (0, 0)) bkx hb)
         have n4_ := Aside0.mk (below_step blx hb)
         clear HO_9
         clear HO_13
         clear BK759
         clear BK764
         clear HB
         have HO_9 := n0_
         have HO_13 := n1_
         have BK759 := n2_
         have BK764 := n3_
         have HB := n4_
         clear n0_ n1_ n2_ n3_ n4_
         (try clear hb)
         (try clear hb2)
         (try clear hk)
         (try clear hi)
         refine hK.out _ _ ⟨(blk_cell BK759.out 0).trans rfl, (blk_cell BK759.out 1).trans rfl⟩ (fun hHeld => ?_)
         clear hK K
         refine norm_ (a' := ?_) ?_ ?_
         rotate_left
         ·show Act.put _ (some 133) _ = _
          simp only [Act.put, List.setIfInBounds_toArray, List.set_cons_zero, List.set_cons_succ, i64_w, i32_w]
          rfl
         refine pure_ (i := 5) (N := some 135) (v := ?_) (a' := ?_) #[true, true, true, true, true, true, false] rfl rfl (by kernel_rfl) (fun _ _ _ h => h) (Or.inl ⟨by rfl, ?_⟩) ?_ ?_
         rotate_left
         ·intro w'
          go_simp
          with_reducible rfl
         rotate_left
         ·simp only [Act.put, List.setIfInBounds_toArray, List.set_cons_zero, List.set_cons_succ, i64_w, i32_w]
          rfl
         refine pure_ (i := 6) (N := some 8) (v := ?_) (a' := ?_) #[true, true, true, true, true, true, true] rfl rfl (by kernel_rfl) (fun _ _ _ h => h) (Or.inl ⟨by rfl, ?_⟩) ?_ ?_
         rotate_left
         ·intro w'
          go_simp
          with_reducible rfl
         rotate_left
         ·simp only [Act.put, List.setIfInBounds_toArray, List.set_cons_zero, List.set_cons_succ, i64_w, i32_w]
          rfl
         refine done_ (by kernel_rfl) ?_
         try go_wp2
         go_ret
         exact ⟨by first | rfl | (simp [errW_none, errW_some] <;> rfl) | (simp [*, errW_none, errW_some] <;> rfl), blx⟩
 ·replace c6 := Bool.eq_false_iff.mpr c6
  subst c6
  have H1 : (some false) = some r := by rw [if_neg (show ¬ (false = true) by decide)] at H; exact H
  clear H
  have H := H1
  clear H1
  obtain rfl := Option.some.inj H
  go_enter Tryd.func14, Tryd.ntmps14
  go_wp2_with (first | ((with_reducible refine gate_callee (f := 51) rfl ?_); refine goesL_ (some 16) rfl rfl Tryd.func51 (by kernel_rfl) rfl #[] rfl agx ?_; (with_reducible refine (levylaw1_known.calls k  false _ A5.out (by first | exact HG0.out | exact Kd.C_below HG0.out blx)).mono ?_); rintro e w72 ⟨rfl, hb⟩; refine ⟨_, rfl, ?_⟩; have n0_ := Aside0.mk (below_step blx hb); clear HB; have HB := n0_; clear n0_; (try clear hb); (try clear hb2); (try clear hk); (try clear hi)))
  go_ret
  exact ⟨by first | rfl | (simp [errW_none, errW_some] <;> rfl) | (simp [*, errW_none, errW_some] <;> rfl), blx⟩

end Go.Proofs.YtnjhjaifmgjljaaDoor.PM
