-- Part 5 of the texts of the claim PF (wrote by programs: words of the kit's print.sh, printed functions; and my own texts; joined by wip/tools/pack.py).
import Derived.Test.YtpbdkkahodaloaaPF4

section
namespace Go.Proofs.Ytpbdkkahodaloaa.PS
open Go.RowKit Go.Proofs.YtpbdkkahodaloaaW.PrintWords Go.Proofs.YtpbdkkahodaloaaW.PrintLast Go.Proofs.YtpbdkkahodaloaaW.PrintMore
attribute [local go_sem] max2_int min2_int max_two min_two max_three min_three max_four min_four
set_option linter.unusedVariables false
set_option linter.unusedSimpArgs false
mutual
def levylaw7_small.j1 : Nat → Int → ByteArray → Int → List (S97) → List (S72) → List (S69) → List (S77) → List (S82) → Option (Bool)
 | 0, _, _, _, _, _, _, _, _ => none
 | k + 1, x3, x213000, x213001, x213002, x213003, x213004, x213005, x213006 => levylaw7_small.l1 k x3 0 x213000 x213001 x213002 x213003 x213004 x213005 x213006
def levylaw7_small.j3 : Nat → Int → ByteArray → Int → List (S97) → List (S72) → List (S69) → List (S77) → List (S82) → Option (Bool)
 | 0, _, _, _, _, _, _, _, _ => none
 | k + 1, x3, x213000, x213001, x213002, x213003, x213004, x213005, x213006 => levylaw7_small.l2 k x3 0 x213000 x213001 x213002 x213003 x213004 x213005 x213006
def levylaw7_small.l2 : Nat → Int → Int → ByteArray → Int → List (S97) → List (S72) → List (S69) → List (S77) → List (S82) → Option (Bool)
 | 0, _, _, _, _, _, _, _, _, _ => none
 | k + 1, x3, x6, x213000, x213001, x213002, x213003, x213004, x213005, x213006 => if x6 < (x213005.length : Int) then (levylaw7_small.j5 k x3 x6 (decide (x3 ≤ 32768)) x213000 x213001 x213002 x213003 x213004 x213005 x213006) else (levylaw7_small.j5 k x3 x6 false x213000 x213001 x213002 x213003 x213004 x213005 x213006)
def levylaw7_small.j5 : Nat → Int → Int → Bool → ByteArray → Int → List (S97) → List (S72) → List (S69) → List (S77) → List (S82) → Option (Bool)
 | 0, _, _, _, _, _, _, _, _, _, _ => none
 | k + 1, x3, x6, x80, x213000, x213001, x213002, x213003, x213004, x213005, x213006 => if x80 = true then (if 0 ≤ x6 then (if x6 < (x213005.length : Int) then (levylaw7_small.l3 k (wrap64 (x3 + (((rd_T77 x213005 x6).f0).size : Int))) x6 0 x213000 x213001 x213002 x213003 x213004 x213005 x213006) else (none)) else (none)) else (levylaw7_small.l4 k x3 0 x213000 x213001 x213002 x213003 x213004 x213005 x213006)
def levylaw7_small.l3 : Nat → Int → Int → Int → ByteArray → Int → List (S97) → List (S72) → List (S69) → List (S77) → List (S82) → Option (Bool)
 | 0, _, _, _, _, _, _, _, _, _, _ => none
 | k + 1, x3, x6, x7, x213000, x213001, x213002, x213003, x213004, x213005, x213006 => if 0 ≤ x6 then (if x6 < (x213005.length : Int) then (if x7 < (((rd_T77 x213005 x6).f6).length : Int) then (levylaw7_small.j7 k x3 x6 x7 (decide (x3 ≤ 32768)) x213000 x213001 x213002 x213003 x213004 x213005 x213006) else (levylaw7_small.j7 k x3 x6 x7 false x213000 x213001 x213002 x213003 x213004 x213005 x213006)) else (none)) else (none)
def levylaw7_small.j7 : Nat → Int → Int → Int → Bool → ByteArray → Int → List (S97) → List (S72) → List (S69) → List (S77) → List (S82) → Option (Bool)
 | 0, _, _, _, _, _, _, _, _, _, _, _ => none
 | k + 1, x3, x6, x7, x104, x213000, x213001, x213002, x213003, x213004, x213005, x213006 => if x104 = true then (if 0 ≤ x6 then (if x6 < (x213005.length : Int) then (if 0 ≤ x7 then (if x7 < (((rd_T77 x213005 x6).f6).length : Int) then ((levylaw7_nodes.f k ((rd_T100 ((rd_T77 x213005 x6).f6) x7).f2.f0) ((rd_T100 ((rd_T77 x213005 x6).f6) x7).f2.f1) ((rd_T100 ((rd_T77 x213005 x6).f6) x7).f2.f2) ((rd_T100 ((rd_T77 x213005 x6).f6) x7).f2.f3) ((rd_T100 ((rd_T77 x213005 x6).f6) x7).f2.f4) 32768).bind fun t219 => ((levylaw7_nodes.f k ((rd_T100 ((rd_T77 x213005 x6).f6) x7).f3.f0) ((rd_T100 ((rd_T77 x213005 x6).f6) x7).f3.f1) ((rd_T100 ((rd_T77 x213005 x6).f6) x7).f3.f2) ((rd_T100 ((rd_T77 x213005 x6).f6) x7).f3.f3) ((rd_T100 ((rd_T77 x213005 x6).f6) x7).f3.f4) 32768).bind fun t222 => (levylaw7_small.l3 k (wrap64 ((wrap64 (x3 + t219)) + t222)) x6 (wrap64 (x7 + 1)) x213000 x213001 x213002 x213003 x213004 x213005 x213006))) else (none)) else (none)) else (none)) else (none)) else (levylaw7_small.l2 k x3 (wrap64 (x6 + 1)) x213000 x213001 x213002 x213003 x213004 x213005 x213006)
def levylaw7_small.l4 : Nat → Int → Int → ByteArray → Int → List (S97) → List (S72) → List (S69) → List (S77) → List (S82) → Option (Bool)
 | 0, _, _, _, _, _, _, _, _, _ => none
 | k + 1, x3, x8, x213000, x213001, x213002, x213003, x213004, x213005, x213006 => if x8 < (x213006.length : Int) then (if x3 ≤ 32768 then (if 0 ≤ x8 then ((levylaw7_nodes.f k ((rd_T82 x213006 x8).f3.f0) ((rd_T82 x213006 x8).f3.f1) ((rd_T82 x213006 x8).f3.f2) ((rd_T82 x213006 x8).f3.f3) ((rd_T82 x213006 x8).f3.f4) 32768).bind fun t224 => (levylaw7_small.l4 k (wrap64 ((wrap64 ((wrap64 (x3 + t224)) + (((rd_T82 x213006 x8).f0).size : Int))) + (((rd_T82 x213006 x8).f4).size : Int))) (wrap64 (x8 + 1)) x213000 x213001 x213002 x213003 x213004 x213005 x213006)) else (none)) else (some (decide (x3 ≤ 32768)))) else (some (decide (x3 ≤ 32768)))
def levylaw7_small.l1 : Nat → Int → Int → ByteArray → Int → List (S97) → List (S72) → List (S69) → List (S77) → List (S82) → Option (Bool)
 | 0, _, _, _, _, _, _, _, _, _ => none
 | k + 1, x3, x5, x213000, x213001, x213002, x213003, x213004, x213005, x213006 => if x5 < (x213003.length : Int) then (if x3 ≤ 32768 then (if 0 ≤ x5 then (levylaw7_small.l1 k (wrap64 (x3 + (((rd_T72 x213003 x5).f1).length : Int))) (wrap64 (x5 + 1)) x213000 x213001 x213002 x213003 x213004 x213005 x213006) else (none)) else (levylaw7_small.j3 k x3 x213000 x213001 x213002 x213003 x213004 x213005 x213006)) else (levylaw7_small.j3 k x3 x213000 x213001 x213002 x213003 x213004 x213005 x213006)
def levylaw7_small.l0 : Nat → Int → Int → ByteArray → Int → List (S97) → List (S72) → List (S69) → List (S77) → List (S82) → Option (Bool)
 | 0, _, _, _, _, _, _, _, _, _ => none
 | k + 1, x3, x4, x213000, x213001, x213002, x213003, x213004, x213005, x213006 => if x4 < (x213002.length : Int) then (if x3 ≤ 32768 then (if 0 ≤ x4 then (levylaw7_small.l0 k (wrap64 (x3 + (((rd_T97 x213002 x4).f1).length : Int))) (wrap64 (x4 + 1)) x213000 x213001 x213002 x213003 x213004 x213005 x213006) else (none)) else (levylaw7_small.j1 k x3 x213000 x213001 x213002 x213003 x213004 x213005 x213006)) else (levylaw7_small.j1 k x3 x213000 x213001 x213002 x213003 x213004 x213005 x213006)
end
def levylaw7_small.f (k : Nat) (a0_0 : ByteArray) (a0_1 : Int) (l0_2 : List (S97)) (l0_3 : List (S72)) (l0_4 : List (S69)) (l0_5 : List (S77)) (l0_6 : List (S82)) : Option (Bool) := levylaw7_small.l0 k (wrap64 ((wrap64 ((wrap64 ((wrap64 ((wrap64 ((a0_0.size : Int) + (l0_2.length : Int))) + (l0_3.length : Int))) + (l0_4.length : Int))) + (l0_5.length : Int))) + (l0_6.length : Int))) 0 a0_0 a0_1 l0_2 l0_3 l0_4 l0_5 l0_6
theorem levylaw7_small.mono_l : ∀ k, (∀ y0 y1 y2 y3 y4 y5 y6 y7, LeO (levylaw7_small.j1 k y0 y1 y2 y3 y4 y5 y6 y7) (levylaw7_small.j1 (k + 1) y0 y1 y2 y3 y4 y5 y6 y7)) ∧ (∀ y0 y1 y2 y3 y4 y5 y6 y7, LeO (levylaw7_small.j3 k y0 y1 y2 y3 y4 y5 y6 y7) (levylaw7_small.j3 (k + 1) y0 y1 y2 y3 y4 y5 y6 y7)) ∧ (∀ y0 y1 y2 y3 y4 y5 y6 y7 y8, LeO (levylaw7_small.l2 k y0 y1 y2 y3 y4 y5 y6 y7 y8) (levylaw7_small.l2 (k + 1) y0 y1 y2 y3 y4 y5 y6 y7 y8)) ∧ (∀ y0 y1 y2 y3 y4 y5 y6 y7 y8 y9, LeO (levylaw7_small.j5 k y0 y1 y2 y3 y4 y5 y6 y7 y8 y9) (levylaw7_small.j5 (k + 1) y0 y1 y2 y3 y4 y5 y6 y7 y8 y9)) ∧ (∀ y0 y1 y2 y3 y4 y5 y6 y7 y8 y9, LeO (levylaw7_small.l3 k y0 y1 y2 y3 y4 y5 y6 y7 y8 y9) (levylaw7_small.l3 (k + 1) y0 y1 y2 y3 y4 y5 y6 y7 y8 y9)) ∧ (∀ y0 y1 y2 y3 y4 y5 y6 y7 y8 y9 y10, LeO (levylaw7_small.j7 k y0 y1 y2 y3 y4 y5 y6 y7 y8 y9 y10) (levylaw7_small.j7 (k + 1) y0 y1 y2 y3 y4 y5 y6 y7 y8 y9 y10)) ∧ (∀ y0 y1 y2 y3 y4 y5 y6 y7 y8, LeO (levylaw7_small.l4 k y0 y1 y2 y3 y4 y5 y6 y7 y8) (levylaw7_small.l4 (k + 1) y0 y1 y2 y3 y4 y5 y6 y7 y8)) ∧ (∀ y0 y1 y2 y3 y4 y5 y6 y7 y8, LeO (levylaw7_small.l1 k y0 y1 y2 y3 y4 y5 y6 y7 y8) (levylaw7_small.l1 (k + 1) y0 y1 y2 y3 y4 y5 y6 y7 y8)) ∧ (∀ y0 y1 y2 y3 y4 y5 y6 y7 y8, LeO (levylaw7_small.l0 k y0 y1 y2 y3 y4 y5 y6 y7 y8) (levylaw7_small.l0 (k + 1) y0 y1 y2 y3 y4 y5 y6 y7 y8))
 | 0 => ⟨fun _ _ _ _ _ _ _ _ r h => by simp [levylaw7_small.j1] at h, fun _ _ _ _ _ _ _ _ r h => by simp [levylaw7_small.j3] at h, fun _ _ _ _ _ _ _ _ _ r h => by simp [levylaw7_small.l2] at h, fun _ _ _ _ _ _ _ _ _ _ r h => by simp [levylaw7_small.j5] at h, fun _ _ _ _ _ _ _ _ _ _ r h => by simp [levylaw7_small.l3] at h, fun _ _ _ _ _ _ _ _ _ _ _ r h => by simp [levylaw7_small.j7] at h, fun _ _ _ _ _ _ _ _ _ r h => by simp [levylaw7_small.l4] at h, fun _ _ _ _ _ _ _ _ _ r h => by simp [levylaw7_small.l1] at h, fun _ _ _ _ _ _ _ _ _ r h => by simp [levylaw7_small.l0] at h⟩
 | k + 1 => by
  obtain ⟨ih0, ih1, ih2, ih3, ih4, ih5, ih6, ih7, ih8⟩ := levylaw7_small.mono_l k
  refine ⟨?_, ?_, ?_, ?_, ?_, ?_, ?_, ?_, ?_⟩
  ·intro y0 y1 y2 y3 y4 y5 y6 y7
   unfold levylaw7_small.j1
   repeat' first
   | (with_reducible exact ih0 _ _ _ _ _ _ _ _)
   | (with_reducible exact ih1 _ _ _ _ _ _ _ _)
   | (with_reducible exact ih2 _ _ _ _ _ _ _ _ _)
   | (with_reducible exact ih3 _ _ _ _ _ _ _ _ _ _)
   | (with_reducible exact ih4 _ _ _ _ _ _ _ _ _ _)
   | (with_reducible exact ih5 _ _ _ _ _ _ _ _ _ _ _)
   | (with_reducible exact ih6 _ _ _ _ _ _ _ _ _)
   | (with_reducible exact ih7 _ _ _ _ _ _ _ _ _)
   | (with_reducible exact ih8 _ _ _ _ _ _ _ _ _)
   | (with_reducible exact levylaw7_nodes.mono _ _ _ _ _ _ _)
   | (with_reducible exact LeO.refl _)
   | (with_reducible exact LeO.none _)
   | (with_reducible refine LeO.ite ?_ ?_)
   | (with_reducible refine LeO.bind ?_ (fun _ => ?_))
   | exact ih0 _ _ _ _ _ _ _ _
   | exact ih1 _ _ _ _ _ _ _ _
   | exact ih2 _ _ _ _ _ _ _ _ _
   | exact ih3 _ _ _ _ _ _ _ _ _ _
   | exact ih4 _ _ _ _ _ _ _ _ _ _
   | exact ih5 _ _ _ _ _ _ _ _ _ _ _
   | exact ih6 _ _ _ _ _ _ _ _ _
   | exact ih7 _ _ _ _ _ _ _ _ _
   | exact ih8 _ _ _ _ _ _ _ _ _
   | exact levylaw7_nodes.mono _ _ _ _ _ _ _
   | exact LeO.none _
   | refine LeO.ite ?_ ?_
   | refine LeO.bind ?_ (fun _ => ?_)
  ·intro y0 y1 y2 y3 y4 y5 y6 y7
   unfold levylaw7_small.j3
   repeat' first
   | (with_reducible exact ih0 _ _ _ _ _ _ _ _)
   | (with_reducible exact ih1 _ _ _ _ _ _ _ _)
   | (with_reducible exact ih2 _ _ _ _ _ _ _ _ _)
   | (with_reducible exact ih3 _ _ _ _ _ _ _ _ _ _)
   | (with_reducible exact ih4 _ _ _ _ _ _ _ _ _ _)
   | (with_reducible exact ih5 _ _ _ _ _ _ _ _ _ _ _)
   | (with_reducible exact ih6 _ _ _ _ _ _ _ _ _)
   | (with_reducible exact ih7 _ _ _ _ _ _ _ _ _)
   | (with_reducible exact ih8 _ _ _ _ _ _ _ _ _)
   | (with_reducible exact levylaw7_nodes.mono _ _ _ _ _ _ _)
   | (with_reducible exact LeO.refl _)
   | (with_reducible exact LeO.none _)
   | (with_reducible refine LeO.ite ?_ ?_)
   | (with_reducible refine LeO.bind ?_ (fun _ => ?_))
   | exact ih0 _ _ _ _ _ _ _ _
   | exact ih1 _ _ _ _ _ _ _ _
   | exact ih2 _ _ _ _ _ _ _ _ _
   | exact ih3 _ _ _ _ _ _ _ _ _ _
   | exact ih4 _ _ _ _ _ _ _ _ _ _
   | exact ih5 _ _ _ _ _ _ _ _ _ _ _
   | exact ih6 _ _ _ _ _ _ _ _ _
   | exact ih7 _ _ _ _ _ _ _ _ _
   | exact ih8 _ _ _ _ _ _ _ _ _
   | exact levylaw7_nodes.mono _ _ _ _ _ _ _
   | exact LeO.none _
   | refine LeO.ite ?_ ?_
   | refine LeO.bind ?_ (fun _ => ?_)
  ·intro y0 y1 y2 y3 y4 y5 y6 y7 y8
   unfold levylaw7_small.l2
   repeat' first
   | (with_reducible exact ih0 _ _ _ _ _ _ _ _)
   | (with_reducible exact ih1 _ _ _ _ _ _ _ _)
   | (with_reducible exact ih2 _ _ _ _ _ _ _ _ _)
   | (with_reducible exact ih3 _ _ _ _ _ _ _ _ _ _)
   | (with_reducible exact ih4 _ _ _ _ _ _ _ _ _ _)
   | (with_reducible exact ih5 _ _ _ _ _ _ _ _ _ _ _)
   | (with_reducible exact ih6 _ _ _ _ _ _ _ _ _)
   | (with_reducible exact ih7 _ _ _ _ _ _ _ _ _)
   | (with_reducible exact ih8 _ _ _ _ _ _ _ _ _)
   | (with_reducible exact levylaw7_nodes.mono _ _ _ _ _ _ _)
   | (with_reducible exact LeO.refl _)
   | (with_reducible exact LeO.none _)
   | (with_reducible refine LeO.ite ?_ ?_)
   | (with_reducible refine LeO.bind ?_ (fun _ => ?_))
   | exact ih0 _ _ _ _ _ _ _ _
   | exact ih1 _ _ _ _ _ _ _ _
   | exact ih2 _ _ _ _ _ _ _ _ _
   | exact ih3 _ _ _ _ _ _ _ _ _ _
   | exact ih4 _ _ _ _ _ _ _ _ _ _
   | exact ih5 _ _ _ _ _ _ _ _ _ _ _
   | exact ih6 _ _ _ _ _ _ _ _ _
   | exact ih7 _ _ _ _ _ _ _ _ _
   | exact ih8 _ _ _ _ _ _ _ _ _
   | exact levylaw7_nodes.mono _ _ _ _ _ _ _
   | exact LeO.none _
   | refine LeO.ite ?_ ?_
   | refine LeO.bind ?_ (fun _ => ?_)
  ·intro y0 y1 y2 y3 y4 y5 y6 y7 y8 y9
   unfold levylaw7_small.j5
   repeat' first
   | (with_reducible exact ih0 _ _ _ _ _ _ _ _)
   | (with_reducible exact ih1 _ _ _ _ _ _ _ _)
   | (with_reducible exact ih2 _ _ _ _ _ _ _ _ _)
   | (with_reducible exact ih3 _ _ _ _ _ _ _ _ _ _)
   | (with_reducible exact ih4 _ _ _ _ _ _ _ _ _ _)
   | (with_reducible exact ih5 _ _ _ _ _ _ _ _ _ _ _)
   | (with_reducible exact ih6 _ _ _ _ _ _ _ _ _)
   | (with_reducible exact ih7 _ _ _ _ _ _ _ _ _)
   | (with_reducible exact ih8 _ _ _ _ _ _ _ _ _)
   | (with_reducible exact levylaw7_nodes.mono _ _ _ _ _ _ _)
   | (with_reducible exact LeO.refl _)
   | (with_reducible exact LeO.none _)
   | (with_reducible refine LeO.ite ?_ ?_)
   | (with_reducible refine LeO.bind ?_ (fun _ => ?_))
   | exact ih0 _ _ _ _ _ _ _ _
   | exact ih1 _ _ _ _ _ _ _ _
   | exact ih2 _ _ _ _ _ _ _ _ _
   | exact ih3 _ _ _ _ _ _ _ _ _ _
   | exact ih4 _ _ _ _ _ _ _ _ _ _
   | exact ih5 _ _ _ _ _ _ _ _ _ _ _
   | exact ih6 _ _ _ _ _ _ _ _ _
   | exact ih7 _ _ _ _ _ _ _ _ _
   | exact ih8 _ _ _ _ _ _ _ _ _
   | exact levylaw7_nodes.mono _ _ _ _ _ _ _
   | exact LeO.none _
   | refine LeO.ite ?_ ?_
   | refine LeO.bind ?_ (fun _ => ?_)
  ·intro y0 y1 y2 y3 y4 y5 y6 y7 y8 y9
   unfold levylaw7_small.l3
   repeat' first
   | (with_reducible exact ih0 _ _ _ _ _ _ _ _)
   | (with_reducible exact ih1 _ _ _ _ _ _ _ _)
   | (with_reducible exact ih2 _ _ _ _ _ _ _ _ _)
   | (with_reducible exact ih3 _ _ _ _ _ _ _ _ _ _)
   | (with_reducible exact ih4 _ _ _ _ _ _ _ _ _ _)
   | (with_reducible exact ih5 _ _ _ _ _ _ _ _ _ _ _)
   | (with_reducible exact ih6 _ _ _ _ _ _ _ _ _)
   | (with_reducible exact ih7 _ _ _ _ _ _ _ _ _)
   | (with_reducible exact ih8 _ _ _ _ _ _ _ _ _)
   | (with_reducible exact levylaw7_nodes.mono _ _ _ _ _ _ _)
   | (with_reducible exact LeO.refl _)
   | (with_reducible exact LeO.none _)
   | (with_reducible refine LeO.ite ?_ ?_)
   | (with_reducible refine LeO.bind ?_ (fun _ => ?_))
   | exact ih0 _ _ _ _ _ _ _ _
   | exact ih1 _ _ _ _ _ _ _ _
   | exact ih2 _ _ _ _ _ _ _ _ _
   | exact ih3 _ _ _ _ _ _ _ _ _ _
   | exact ih4 _ _ _ _ _ _ _ _ _ _
   | exact ih5 _ _ _ _ _ _ _ _ _ _ _
   | exact ih6 _ _ _ _ _ _ _ _ _
   | exact ih7 _ _ _ _ _ _ _ _ _
   | exact ih8 _ _ _ _ _ _ _ _ _
   | exact levylaw7_nodes.mono _ _ _ _ _ _ _
   | exact LeO.none _
   | refine LeO.ite ?_ ?_
   | refine LeO.bind ?_ (fun _ => ?_)
  ·intro y0 y1 y2 y3 y4 y5 y6 y7 y8 y9 y10
   unfold levylaw7_small.j7
   repeat' first
   | (with_reducible exact ih0 _ _ _ _ _ _ _ _)
   | (with_reducible exact ih1 _ _ _ _ _ _ _ _)
   | (with_reducible exact ih2 _ _ _ _ _ _ _ _ _)
   | (with_reducible exact ih3 _ _ _ _ _ _ _ _ _ _)
   | (with_reducible exact ih4 _ _ _ _ _ _ _ _ _ _)
   | (with_reducible exact ih5 _ _ _ _ _ _ _ _ _ _ _)
   | (with_reducible exact ih6 _ _ _ _ _ _ _ _ _)
   | (with_reducible exact ih7 _ _ _ _ _ _ _ _ _)
   | (with_reducible exact ih8 _ _ _ _ _ _ _ _ _)
   | (with_reducible exact levylaw7_nodes.mono _ _ _ _ _ _ _)
   | (with_reducible exact LeO.refl _)
   | (with_reducible exact LeO.none _)
   | (with_reducible refine LeO.ite ?_ ?_)
   | (with_reducible refine LeO.bind ?_ (fun _ => ?_))
   | exact ih0 _ _ _ _ _ _ _ _
   | exact ih1 _ _ _ _ _ _ _ _
   | exact ih2 _ _ _ _ _ _ _ _ _
   | exact ih3 _ _ _ _ _ _ _ _ _ _
   | exact ih4 _ _ _ _ _ _ _ _ _ _
   | exact ih5 _ _ _ _ _ _ _ _ _ _ _
   | exact ih6 _ _ _ _ _ _ _ _ _
   | exact ih7 _ _ _ _ _ _ _ _ _
   | exact ih8 _ _ _ _ _ _ _ _ _
   | exact levylaw7_nodes.mono _ _ _ _ _ _ _
   | exact LeO.none _
   | refine LeO.ite ?_ ?_
   | refine LeO.bind ?_ (fun _ => ?_)
  ·intro y0 y1 y2 y3 y4 y5 y6 y7 y8
   unfold levylaw7_small.l4
   repeat' first
   | (with_reducible exact ih0 _ _ _ _ _ _ _ _)
   | (with_reducible exact ih1 _ _ _ _ _ _ _ _)
   | (with_reducible exact ih2 _ _ _ _ _ _ _ _ _)
   | (with_reducible exact ih3 _ _ _ _ _ _ _ _ _ _)
   | (with_reducible exact ih4 _ _ _ _ _ _ _ _ _ _)
   | (with_reducible exact ih5 _ _ _ _ _ _ _ _ _ _ _)
   | (with_reducible exact ih6 _ _ _ _ _ _ _ _ _)
   | (with_reducible exact ih7 _ _ _ _ _ _ _ _ _)
   | (with_reducible exact ih8 _ _ _ _ _ _ _ _ _)
   | (with_reducible exact levylaw7_nodes.mono _ _ _ _ _ _ _)
   | (with_reducible exact LeO.refl _)
   | (with_reducible exact LeO.none _)
   | (with_reducible refine LeO.ite ?_ ?_)
   | (with_reducible refine LeO.bind ?_ (fun _ => ?_))
   | exact ih0 _ _ _ _ _ _ _ _
   | exact ih1 _ _ _ _ _ _ _ _
   | exact ih2 _ _ _ _ _ _ _ _ _
   | exact ih3 _ _ _ _ _ _ _ _ _ _
   | exact ih4 _ _ _ _ _ _ _ _ _ _
   | exact ih5 _ _ _ _ _ _ _ _ _ _ _
   | exact ih6 _ _ _ _ _ _ _ _ _
   | exact ih7 _ _ _ _ _ _ _ _ _
   | exact ih8 _ _ _ _ _ _ _ _ _
   | exact levylaw7_nodes.mono _ _ _ _ _ _ _
   | exact LeO.none _
   | refine LeO.ite ?_ ?_
   | refine LeO.bind ?_ (fun _ => ?_)
  ·intro y0 y1 y2 y3 y4 y5 y6 y7 y8
   unfold levylaw7_small.l1
   repeat' first
   | (with_reducible exact ih0 _ _ _ _ _ _ _ _)
   | (with_reducible exact ih1 _ _ _ _ _ _ _ _)
   | (with_reducible exact ih2 _ _ _ _ _ _ _ _ _)
   | (with_reducible exact ih3 _ _ _ _ _ _ _ _ _ _)
   | (with_reducible exact ih4 _ _ _ _ _ _ _ _ _ _)
   | (with_reducible exact ih5 _ _ _ _ _ _ _ _ _ _ _)
   | (with_reducible exact ih6 _ _ _ _ _ _ _ _ _)
   | (with_reducible exact ih7 _ _ _ _ _ _ _ _ _)
   | (with_reducible exact ih8 _ _ _ _ _ _ _ _ _)
   | (with_reducible exact levylaw7_nodes.mono _ _ _ _ _ _ _)
   | (with_reducible exact LeO.refl _)
   | (with_reducible exact LeO.none _)
   | (with_reducible refine LeO.ite ?_ ?_)
   | (with_reducible refine LeO.bind ?_ (fun _ => ?_))
   | exact ih0 _ _ _ _ _ _ _ _
   | exact ih1 _ _ _ _ _ _ _ _
   | exact ih2 _ _ _ _ _ _ _ _ _
   | exact ih3 _ _ _ _ _ _ _ _ _ _
   | exact ih4 _ _ _ _ _ _ _ _ _ _
   | exact ih5 _ _ _ _ _ _ _ _ _ _ _
   | exact ih6 _ _ _ _ _ _ _ _ _
   | exact ih7 _ _ _ _ _ _ _ _ _
   | exact ih8 _ _ _ _ _ _ _ _ _
   | exact levylaw7_nodes.mono _ _ _ _ _ _ _
   | exact LeO.none _
   | refine LeO.ite ?_ ?_
   | refine LeO.bind ?_ (fun _ => ?_)
  ·intro y0 y1 y2 y3 y4 y5 y6 y7 y8
   unfold levylaw7_small.l0
   repeat' first
   | (with_reducible exact ih0 _ _ _ _ _ _ _ _)
   | (with_reducible exact ih1 _ _ _ _ _ _ _ _)
   | (with_reducible exact ih2 _ _ _ _ _ _ _ _ _)
   | (with_reducible exact ih3 _ _ _ _ _ _ _ _ _ _)
   | (with_reducible exact ih4 _ _ _ _ _ _ _ _ _ _)
   | (with_reducible exact ih5 _ _ _ _ _ _ _ _ _ _ _)
   | (with_reducible exact ih6 _ _ _ _ _ _ _ _ _)
   | (with_reducible exact ih7 _ _ _ _ _ _ _ _ _)
   | (with_reducible exact ih8 _ _ _ _ _ _ _ _ _)
   | (with_reducible exact levylaw7_nodes.mono _ _ _ _ _ _ _)
   | (with_reducible exact LeO.refl _)
   | (with_reducible exact LeO.none _)
   | (with_reducible refine LeO.ite ?_ ?_)
   | (with_reducible refine LeO.bind ?_ (fun _ => ?_))
   | exact ih0 _ _ _ _ _ _ _ _
   | exact ih1 _ _ _ _ _ _ _ _
   | exact ih2 _ _ _ _ _ _ _ _ _
   | exact ih3 _ _ _ _ _ _ _ _ _ _
   | exact ih4 _ _ _ _ _ _ _ _ _ _
   | exact ih5 _ _ _ _ _ _ _ _ _ _ _
   | exact ih6 _ _ _ _ _ _ _ _ _
   | exact ih7 _ _ _ _ _ _ _ _ _
   | exact ih8 _ _ _ _ _ _ _ _ _
   | exact levylaw7_nodes.mono _ _ _ _ _ _ _
   | exact LeO.none _
   | refine LeO.ite ?_ ?_
   | refine LeO.bind ?_ (fun _ => ?_)
theorem levylaw7_small.mono : ∀ a0 a1 a2 a3 a4 a5 a6 k, LeO (levylaw7_small.f k a0 a1 a2 a3 a4 a5 a6) (levylaw7_small.f (k + 1) a0 a1 a2 a3 a4 a5 a6) := by
 intro a0 a1 a2 a3 a4 a5 a6 k
 obtain ⟨ih0, ih1, ih2, ih3, ih4, ih5, ih6, ih7, ih8⟩ := levylaw7_small.mono_l k
 unfold levylaw7_small.f
 repeat' first
   | (with_reducible exact ih0 _ _ _ _ _ _ _ _)
   | (with_reducible exact ih1 _ _ _ _ _ _ _ _)
   | (with_reducible exact ih2 _ _ _ _ _ _ _ _ _)
   | (with_reducible exact ih3 _ _ _ _ _ _ _ _ _ _)
   | (with_reducible exact ih4 _ _ _ _ _ _ _ _ _ _)
   | (with_reducible exact ih5 _ _ _ _ _ _ _ _ _ _ _)
   | (with_reducible exact ih6 _ _ _ _ _ _ _ _ _)
   | (with_reducible exact ih7 _ _ _ _ _ _ _ _ _)
   | (with_reducible exact ih8 _ _ _ _ _ _ _ _ _)
   | (with_reducible exact levylaw7_nodes.mono _ _ _ _ _ _ _)
   | (with_reducible exact LeO.refl _)
   | (with_reducible exact LeO.none _)
   | (with_reducible refine LeO.ite ?_ ?_)
   | (with_reducible refine LeO.bind ?_ (fun _ => ?_))
   | exact ih0 _ _ _ _ _ _ _ _
   | exact ih1 _ _ _ _ _ _ _ _
   | exact ih2 _ _ _ _ _ _ _ _ _
   | exact ih3 _ _ _ _ _ _ _ _ _ _
   | exact ih4 _ _ _ _ _ _ _ _ _ _
   | exact ih5 _ _ _ _ _ _ _ _ _ _ _
   | exact ih6 _ _ _ _ _ _ _ _ _
   | exact ih7 _ _ _ _ _ _ _ _ _
   | exact ih8 _ _ _ _ _ _ _ _ _
   | exact levylaw7_nodes.mono _ _ _ _ _ _ _
   | exact LeO.none _
   | refine LeO.ite ?_ ?_
   | refine LeO.bind ?_ (fun _ => ?_)
def levylaw7_small.T17 : Bool × List (List Nat × List Nat) := (true, [([], []), ([], []), ([1], [1]), ([], []), ([2, 3], [2, 3]), ([4], [4]), ([5], [5]), ([], []), ([6, 7], [6, 7]), ([8], [8]), ([9], [9]), ([10], [10]), ([0, 11], [0, 11]), ([], []), ([13], [13]), ([], []), ([14, 15], [14, 15]), ([16], [16]), ([17], [17]), ([], []), ([18, 19], [18, 19]), ([20], [20]), ([21], [21]), ([22, 11], [22]), ([12, 23], [12, 23]), ([24, 23, 0, 1, 2, 3, 4, 5, 6, 7, 8, 9, 10, 11, 12, 13, 14, 15, 16, 17, 18, 19, 20, 21, 22, 23, 24], [0, 24])])
def levylaw7_small.B17 : List Nat := [0, 0, 2, 0, 14, 30, 62, 0, 254, 510, 1022, 2046, 4095, 0, 8192, 0, 57344, 122880, 253952, 0, 1040384, 2088960, 4186112, 8384510, 16777215, 33554431]
theorem levylaw7_small.tab17 : rtab .any (opsOf Try.f14 17) = levylaw7_small.T17 := by kernel_rfl
theorem levylaw7_small.bits17 : waitsOk levylaw7_small.T17.2 levylaw7_small.B17 = true := by kernel_rfl
def levylaw7_small.T21 : Bool × List (List Nat × List Nat) := (true, [([], []), ([], []), ([1], [1]), ([], []), ([2, 3], [2, 3]), ([4], [4]), ([5], [5]), ([6], [6]), ([0, 7], [0, 7]), ([], []), ([9], [9]), ([], []), ([10, 11], [10, 11]), ([12], [12]), ([13], [13]), ([14], [14]), ([8, 15], [8, 15]), ([], []), ([17], [17]), ([], []), ([18, 19], [18, 19]), ([20], [20]), ([21], [21]), ([22], [22]), ([16, 23], [16, 23]), ([24, 7, 0, 1, 2, 3, 4, 5, 6, 7, 8, 9, 10, 11, 12, 13, 14, 15, 16, 17, 18, 19, 20, 21, 22, 23, 24], [0, 24])])
def levylaw7_small.B21 : List Nat := [0, 0, 2, 0, 14, 30, 62, 126, 255, 0, 512, 0, 3584, 7680, 15872, 32256, 65535, 0, 131072, 0, 917504, 1966080, 4063232, 8257536, 16777215, 33554431]
theorem levylaw7_small.tab21 : rtab .any (opsOf Try.f14 21) = levylaw7_small.T21 := by kernel_rfl
theorem levylaw7_small.bits21 : waitsOk levylaw7_small.T21.2 levylaw7_small.B21 = true := by kernel_rfl
set_option maxHeartbeats 8000000 in
set_option maxRecDepth 100000 in
theorem levylaw7_small.calls (k : Nat) (a0_0 : ByteArray) (a0_1 : Int) (A0_2 : Option Addr) (c0_2 : Nat) (l0_2 : List (S97)) (A0_3 : Option Addr) (c0_3 : Nat) (l0_3 : List (S72)) (A0_4 : Option Addr) (c0_4 : Nat) (l0_4 : List (S69)) (A0_5 : Option Addr) (c0_5 : Nat) (l0_5 : List (S77)) (A0_6 : Option Addr) (c0_6 : Nat) (l0_6 : List (S82)) (r : Bool) (w : World) (hr0_2 : Kd.C k97 w A0_2 l0_2.length l0_2) (hc0_2 : l0_2.length ≤ c0_2) (hr0_3 : Kd.C k72 w A0_3 l0_3.length l0_3) (hc0_3 : l0_3.length ≤ c0_3) (hr0_4 : Kd.C k69 w A0_4 l0_4.length l0_4) (hc0_4 : l0_4.length ≤ c0_4) (hr0_5 : Kd.C k77 w A0_5 l0_5.length l0_5) (hc0_5 : l0_5.length ≤ c0_5) (hr0_6 : Kd.C k82 w A0_6 l0_6.length l0_6) (hc0_6 : l0_6.length ≤ c0_6) (h : levylaw7_small.f k a0_0 a0_1 l0_2 l0_3 l0_4 l0_5 l0_6 = some r) :
  Calls Try.prog 14 #[.agg #[.string a0_0, .int .i64 a0_1, .slice A0_2 l0_2.length c0_2, .slice A0_3 l0_3.length c0_3, .slice A0_4 l0_4.length c0_4, .slice A0_5 l0_5.length c0_5, .slice A0_6 l0_6.length c0_6]] w fun e w' => e = .returned (.bool r) ∧ Below w.heap.size w w' := by
 have hu33 := Try.underlying33
 have hu80 := Try.underlying80
 have HR0_2 := Aside0.mk hr0_2
 have HC0_2 := Aside0.mk hc0_2
 clear hr0_2 hc0_2
 have HR0_3 := Aside0.mk hr0_3
 have HC0_3 := Aside0.mk hc0_3
 clear hr0_3 hc0_3
 have HR0_4 := Aside0.mk hr0_4
 have HC0_4 := Aside0.mk hc0_4
 clear hr0_4 hc0_4
 have HR0_5 := Aside0.mk hr0_5
 have HC0_5 := Aside0.mk hc0_5
 clear hr0_5 hc0_5
 have HR0_6 := Aside0.mk hr0_6
 have HC0_6 := Aside0.mk hc0_6
 clear hr0_6 hc0_6
 have HB := Aside0.mk (Below.refl w.heap.size w)
 have H : (levylaw7_small.l0 k (wrap64 ((wrap64 ((wrap64 ((wrap64 ((wrap64 ((a0_0.size : Int) + (l0_2.length : Int))) + (l0_3.length : Int))) + (l0_4.length : Int))) + (l0_5.length : Int))) + (l0_6.length : Int))) 0 a0_0 a0_1 l0_2 l0_3 l0_4 l0_5 l0_6) = some r := h
 clear h
 have HC2 := Aside0.mk H
 clear H
 go_enter Try.func14, Try.ntmps14
 go_upto_block 0 with (first | ((with_reducible refine gate_dst (N := 1) rfl ?_); refine box_event ?hg (N := 1) ?hd (cs := #[.string a0_0, .int .i64 a0_1, .slice A0_2 l0_2.length c0_2, .slice A0_3 l0_3.length c0_3, .slice A0_4 l0_4.length c0_4, .slice A0_5 l0_5.length c0_5, .slice A0_6 l0_6.length c0_6]) (t := 33) ?hr ?_; (case hd => rfl); (case hg => rfl); (case hr => first | (go_simp; done) | (go_simp; rfl)); intro gb212 hg w3 hbox hb; have n0_ := Aside0.mk (below_step blx hb); have n1_ := Aside0.mk (hbox); have n2_ := Aside0.mk ((by rw [hg]; exact (below_size blx) : w.heap.size ≤ gb212)); have n3_ := Aside0.mk ((by rw [hg]; exact (below_size blx) : w.heap.size ≤ gb212)); clear HB; have HB := n0_; have BK212 := n1_; have GW212 := n2_; have GE212 := n3_; clear n0_ n1_ n2_ n3_; clear hb hbox hg; have hcz4_0 : w3.cell? ⟨gb212, 0, none⟩ = some (.string a0_0) := (blk_cell BK212.out 0).trans rfl; have hcz4_1 : w3.cell? ⟨gb212, 1, none⟩ = some (.int .i64 a0_1) := (blk_cell BK212.out 1).trans rfl; have hcz4_2 : w3.cell? ⟨gb212, 2, none⟩ = some (.slice A0_2 l0_2.length c0_2) := (blk_cell BK212.out 2).trans rfl; have hcz4_3 : w3.cell? ⟨gb212, 3, none⟩ = some (.slice A0_3 l0_3.length c0_3) := (blk_cell BK212.out 3).trans rfl; have hcz4_4 : w3.cell? ⟨gb212, 4, none⟩ = some (.slice A0_4 l0_4.length c0_4) := (blk_cell BK212.out 4).trans rfl; have hcz4_5 : w3.cell? ⟨gb212, 5, none⟩ = some (.slice A0_5 l0_5.length c0_5) := (blk_cell BK212.out 5).trans rfl; have hcz4_6 : w3.cell? ⟨gb212, 6, none⟩ = some (.slice A0_6 l0_6.length c0_6) := (blk_cell BK212.out 6).trans rfl; have hfz4_0 := blk_frozen BK212.out 0; have hfz4_1 := blk_frozen BK212.out 1; have hfz4_2 := blk_frozen BK212.out 2; have hfz4_3 := blk_frozen BK212.out 3; have hfz4_4 := blk_frozen BK212.out 4; have hfz4_5 := blk_frozen BK212.out 5; have hfz4_6 := blk_frozen BK212.out 6))
 (try simp only [Act.put, List.setIfInBounds_toArray, List.set_cons_zero, List.set_cons_succ])
 go_cut [3] (fun v3 wc => ∃ (kq : Nat) (x3_1 : Int), v3 = .int .i64 x3_1 ∧ Aside0 (levylaw7_small.j1 kq x3_1 a0_0 a0_1 l0_2 l0_3 l0_4 l0_5 l0_6 = some r) ∧ Aside0 (kq ≤ k) ∧ Aside0 (wc.heap[gb212]? = some (.cells #[.string a0_0, .int .i64 a0_1, (.slice A0_2 l0_2.length c0_2), (.slice A0_3 l0_3.length c0_3), (.slice A0_4 l0_4.length c0_4), (.slice A0_5 l0_5.length c0_5), (.slice A0_6 l0_6.length c0_6)] 33 (0, 0))) ∧ Aside0 (Below w.heap.size w wc))
 case first =>
  have H := HC2.out
  clear HC2
  have H' := Aside0.mk H
  clear H
  go_wp2
  go_loopg [3, 4] k (fun kq v3 v4 w' => ∃ (x3_1 : Int) (x4_1 : Int), v3 = .int .i64 x3_1 ∧ v4 = .int .i64 x4_1 ∧ Aside0 (levylaw7_small.l0 kq x3_1 x4_1 a0_0 a0_1 l0_2 l0_3 l0_4 l0_5 l0_6 = some r) ∧ Aside0 (kq ≤ k) ∧ Aside0 (w'.heap[gb212]? = some (.cells #[.string a0_0, .int .i64 a0_1, (.slice A0_2 l0_2.length c0_2), (.slice A0_3 l0_3.length c0_3), (.slice A0_4 l0_4.length c0_4), (.slice A0_5 l0_5.length c0_5), (.slice A0_6 l0_6.length c0_6)] 33 (0, 0))) ∧ Aside0 (Below w.heap.size w w'))
  case atStart => exact ⟨(wrap64 ((wrap64 ((wrap64 ((wrap64 ((wrap64 ((a0_0.size : Int) + (l0_2.length : Int))) + (l0_3.length : Int))) + (l0_4.length : Int))) + (l0_5.length : Int))) + (l0_6.length : Int))), (0), (by first | rfl | (simp; done) | (simp [*]; done)), (by first | rfl | (simp; done) | (simp [*]; done)), H', ⟨Nat.le_refl _⟩, ⟨bkx⟩, ⟨blx⟩⟩
  case round =>
   clear H'
   try clear c1
   try clear p2
   try clear hcz4_0
   try clear hcz4_1
   try clear hcz4_2
   try clear hcz4_3
   try clear hcz4_4
   try clear hcz4_5
   try clear hcz4_6
   try clear hfz4_0
   try clear hfz4_1
   try clear hfz4_2
   try clear hfz4_3
   try clear hfz4_4
   try clear hfz4_5
   try clear hfz4_6
   obtain ⟨x3_1, x4_1, rfl, rfl, HA, HK1, BK212, HB⟩ := hrel
   cases gk with
   | zero => exact absurd HA.out (by simp [levylaw7_small.l0])
   | succ k1 =>
    have H := HA.out
    clear HA
    simp only [levylaw7_small.l0] at H
    by_cases c5 : x4_1 < (l0_2.length : Int)
    ·rw [if_pos c5] at H
     have c5b0 : decide (x4_1 < (l0_2.length : Int)) = true := decide_eq_true c5
     clear c5
     (first | rw [c5b0] | (simp only [i64_w, i32_w]; rw [c5b0]) | skip)
     by_cases c6 : x3_1 ≤ 32768
     ·rw [if_pos c6] at H
      have c6b0 : decide (x3_1 ≤ 32768) = true := decide_eq_true c6
      clear c6
      by_cases c7 : 0 ≤ x4_1
      ·rw [if_pos c7] at H
       have c7b0 : decide (0 ≤ x4_1) = true := decide_eq_true c7
       clear c7
       have H' := Aside0.mk H
       clear H
       have hcz8_0 : wr.cell? ⟨gb212, 0, none⟩ = some (.string a0_0) := (blk_cell BK212.out 0).trans rfl
       have hcz8_1 : wr.cell? ⟨gb212, 1, none⟩ = some (.int .i64 a0_1) := (blk_cell BK212.out 1).trans rfl
       have hcz8_2 : wr.cell? ⟨gb212, 2, none⟩ = some (.slice A0_2 l0_2.length c0_2) := (blk_cell BK212.out 2).trans rfl
       have hcz8_3 : wr.cell? ⟨gb212, 3, none⟩ = some (.slice A0_3 l0_3.length c0_3) := (blk_cell BK212.out 3).trans rfl
       have hcz8_4 : wr.cell? ⟨gb212, 4, none⟩ = some (.slice A0_4 l0_4.length c0_4) := (blk_cell BK212.out 4).trans rfl
       have hcz8_5 : wr.cell? ⟨gb212, 5, none⟩ = some (.slice A0_5 l0_5.length c0_5) := (blk_cell BK212.out 5).trans rfl
       have hcz8_6 : wr.cell? ⟨gb212, 6, none⟩ = some (.slice A0_6 l0_6.length c0_6) := (blk_cell BK212.out 6).trans rfl
       have hfz8_0 := blk_frozen BK212.out 0
       have hfz8_1 := blk_frozen BK212.out 1
       have hfz8_2 := blk_frozen BK212.out 2
       have hfz8_3 := blk_frozen BK212.out 3
       have hfz8_4 := blk_frozen BK212.out 4
       have hfz8_5 := blk_frozen BK212.out 5
       have hfz8_6 := blk_frozen BK212.out 6
       have p213 : 0 ≤ (x4_1 : Int) := odx
       have q213 : x4_1 < (l0_2.length : Int) := odx
       obtain ⟨ad213, A213_1, c213_1, e213, hx213_0, hx213_1, hl213_1, hi213_1⟩ := at_T97 HR0_2.out x4_1 p213 q213
       cases e213
       replace hx213_0 := (HB.out.cell (World.block_lt_of_cell? w _ hx213_0)).trans hx213_0
       replace hx213_1 := (HB.out.cell (World.block_lt_of_cell? w _ hx213_1)).trans hx213_1
       have HR213_1 := Aside0.mk hi213_1
       have HC213_1 := Aside0.mk hl213_1
       clear hi213_1 hl213_1
       replace p213 := eq_true p213
       replace q213 := eq_true q213
       go_wp2
       go_roundg k1
       case measure => have := HK1.out; omega
       case rel => exact ⟨(wrap64 (x3_1 + (((rd_T97 l0_2 x4_1).f1).length : Int))), (wrap64 (x4_1 + 1)), (by first | rfl | (simp; done) | (simp [*]; done)), (by first | rfl | (simp; done) | (simp [*]; done)), H', ⟨by have := HK1.out; omega⟩, ⟨bkx⟩, ⟨blx⟩⟩
      ·rw [if_neg c7] at H
       exact absurd H (by simp)
     ·rw [if_neg c6] at H
      have c6b0 : decide (x3_1 ≤ 32768) = false := decide_eq_false c6
      clear c6
      have H' := Aside0.mk H
      clear H
      have hcz9_0 : wr.cell? ⟨gb212, 0, none⟩ = some (.string a0_0) := (blk_cell BK212.out 0).trans rfl
      have hcz9_1 : wr.cell? ⟨gb212, 1, none⟩ = some (.int .i64 a0_1) := (blk_cell BK212.out 1).trans rfl
      have hcz9_2 : wr.cell? ⟨gb212, 2, none⟩ = some (.slice A0_2 l0_2.length c0_2) := (blk_cell BK212.out 2).trans rfl
      have hcz9_3 : wr.cell? ⟨gb212, 3, none⟩ = some (.slice A0_3 l0_3.length c0_3) := (blk_cell BK212.out 3).trans rfl
      have hcz9_4 : wr.cell? ⟨gb212, 4, none⟩ = some (.slice A0_4 l0_4.length c0_4) := (blk_cell BK212.out 4).trans rfl
      have hcz9_5 : wr.cell? ⟨gb212, 5, none⟩ = some (.slice A0_5 l0_5.length c0_5) := (blk_cell BK212.out 5).trans rfl
      have hcz9_6 : wr.cell? ⟨gb212, 6, none⟩ = some (.slice A0_6 l0_6.length c0_6) := (blk_cell BK212.out 6).trans rfl
      have hfz9_0 := blk_frozen BK212.out 0
      have hfz9_1 := blk_frozen BK212.out 1
      have hfz9_2 := blk_frozen BK212.out 2
      have hfz9_3 := blk_frozen BK212.out 3
      have hfz9_4 := blk_frozen BK212.out 4
      have hfz9_5 := blk_frozen BK212.out 5
      have hfz9_6 := blk_frozen BK212.out 6
      go_wp2
      go_meet
      case rel => exact ⟨_, (x3_1), (by first | rfl | (simp; done) | (simp [*]; done)), H', ⟨by have := HK1.out; first | omega | exact Nat.le_refl _⟩, ⟨bkx⟩, ⟨blx⟩⟩
    ·rw [if_neg c5] at H
     have c5b0 : decide (x4_1 < (l0_2.length : Int)) = false := decide_eq_false c5
     clear c5
     (first | rw [c5b0] | (simp only [i64_w, i32_w]; rw [c5b0]) | skip)
     have H' := Aside0.mk H
     clear H
     have hcz10_0 : wr.cell? ⟨gb212, 0, none⟩ = some (.string a0_0) := (blk_cell BK212.out 0).trans rfl
     have hcz10_1 : wr.cell? ⟨gb212, 1, none⟩ = some (.int .i64 a0_1) := (blk_cell BK212.out 1).trans rfl
     have hcz10_2 : wr.cell? ⟨gb212, 2, none⟩ = some (.slice A0_2 l0_2.length c0_2) := (blk_cell BK212.out 2).trans rfl
     have hcz10_3 : wr.cell? ⟨gb212, 3, none⟩ = some (.slice A0_3 l0_3.length c0_3) := (blk_cell BK212.out 3).trans rfl
     have hcz10_4 : wr.cell? ⟨gb212, 4, none⟩ = some (.slice A0_4 l0_4.length c0_4) := (blk_cell BK212.out 4).trans rfl
     have hcz10_5 : wr.cell? ⟨gb212, 5, none⟩ = some (.slice A0_5 l0_5.length c0_5) := (blk_cell BK212.out 5).trans rfl
     have hcz10_6 : wr.cell? ⟨gb212, 6, none⟩ = some (.slice A0_6 l0_6.length c0_6) := (blk_cell BK212.out 6).trans rfl
     have hfz10_0 := blk_frozen BK212.out 0
     have hfz10_1 := blk_frozen BK212.out 1
     have hfz10_2 := blk_frozen BK212.out 2
     have hfz10_3 := blk_frozen BK212.out 3
     have hfz10_4 := blk_frozen BK212.out 4
     have hfz10_5 := blk_frozen BK212.out 5
     have hfz10_6 := blk_frozen BK212.out 6
     go_wp2
     go_meet
     case rel => exact ⟨_, (x3_1), (by first | rfl | (simp; done) | (simp [*]; done)), H', ⟨by have := HK1.out; first | omega | exact Nat.le_refl _⟩, ⟨bkx⟩, ⟨blx⟩⟩
 case rest =>
  clear HC2
  try clear c1
  try clear c2
  try clear p2
  try clear q2
  try clear hx2
  try clear c5
  try clear c5b0
  try clear c6
  try clear c6b0
  try clear p6
  try clear c7
  try clear c7b0
  try clear hcz10_0
  try clear hcz10_1
  try clear hcz10_2
  try clear hcz10_3
  try clear hcz10_4
  try clear hcz10_5
  try clear hcz10_6
  try clear hcz4_0
  try clear hcz4_1
  try clear hcz4_2
  try clear hcz4_3
  try clear hcz4_4
  try clear hcz4_5
  try clear hcz4_6
  try clear hcz8_0
  try clear hcz8_1
  try clear hcz8_2
  try clear hcz8_3
  try clear hcz8_4
  try clear hcz8_5
  try clear hcz8_6
  try clear hcz9_0
  try clear hcz9_1
  try clear hcz9_2
  try clear hcz9_3
  try clear hcz9_4
  try clear hcz9_5
  try clear hcz9_6
  try clear hfz10_0
  try clear hfz10_1
  try clear hfz10_2
  try clear hfz10_3
  try clear hfz10_4
  try clear hfz10_5
  try clear hfz10_6
  try clear hfz4_0
  try clear hfz4_1
  try clear hfz4_2
  try clear hfz4_3
  try clear hfz4_4
  try clear hfz4_5
  try clear hfz4_6
  try clear hfz8_0
  try clear hfz8_1
  try clear hfz8_2
  try clear hfz8_3
  try clear hfz8_4
  try clear hfz8_5
  try clear hfz8_6
  try clear hfz9_0
  try clear hfz9_1
  try clear hfz9_2
  try clear hfz9_3
  try clear hfz9_4
  try clear hfz9_5
  try clear hfz9_6
  try clear hx213_0
  try clear hx213_1
  try clear p2
  try clear p213
  try clear q213
  obtain ⟨kq, x3_1, rfl, HA, HJ1, BK212, HB⟩ := hcut
  cases kq with
  | zero => exact absurd HA.out (by simp [levylaw7_small.j1])
  | succ kj1 =>
   have H := HA.out
   clear HA
   simp only [levylaw7_small.j1] at H
   have HC11 := Aside0.mk H
   clear H
   go_upto_block 2 with (fail)
   go_cut [3] (fun v3 wc => ∃ (kq : Nat) (x3_10 : Int), v3 = .int .i64 x3_10 ∧ Aside0 (levylaw7_small.j3 kq x3_10 a0_0 a0_1 l0_2 l0_3 l0_4 l0_5 l0_6 = some r) ∧ Aside0 (kq ≤ kj1) ∧ Aside0 (wc.heap[gb212]? = some (.cells #[.string a0_0, .int .i64 a0_1, (.slice A0_2 l0_2.length c0_2), (.slice A0_3 l0_3.length c0_3), (.slice A0_4 l0_4.length c0_4), (.slice A0_5 l0_5.length c0_5), (.slice A0_6 l0_6.length c0_6)] 33 (0, 0))) ∧ Aside0 (Below w.heap.size w wc))
   case first =>
    have H := HC11.out
    clear HC11
    have H' := Aside0.mk H
    clear H
    go_wp2
    go_loopg [3, 5] kj1 (fun kq v3 v5 w' => ∃ (x3_2 : Int) (x5_2 : Int), v3 = .int .i64 x3_2 ∧ v5 = .int .i64 x5_2 ∧ Aside0 (levylaw7_small.l1 kq x3_2 x5_2 a0_0 a0_1 l0_2 l0_3 l0_4 l0_5 l0_6 = some r) ∧ Aside0 (kq ≤ kj1) ∧ Aside0 (w'.heap[gb212]? = some (.cells #[.string a0_0, .int .i64 a0_1, (.slice A0_2 l0_2.length c0_2), (.slice A0_3 l0_3.length c0_3), (.slice A0_4 l0_4.length c0_4), (.slice A0_5 l0_5.length c0_5), (.slice A0_6 l0_6.length c0_6)] 33 (0, 0))) ∧ Aside0 (Below w.heap.size w w'))
    case atStart => exact ⟨(x3_1), (0), (by first | rfl | (simp; done) | (simp [*]; done)), (by first | rfl | (simp; done) | (simp [*]; done)), H', ⟨Nat.le_refl _⟩, ⟨bkx⟩, ⟨blx⟩⟩
    case round =>
     clear H'
     try clear c1
     try clear c2
     try clear p2
     try clear q2
     try clear hx2
     try clear c5
     try clear c5b0
     try clear c6
     try clear c6b0
     try clear p6
     try clear c7
     try clear c7b0
     try clear hcz10_0
     try clear hcz10_1
     try clear hcz10_2
     try clear hcz10_3
     try clear hcz10_4
     try clear hcz10_5
     try clear hcz10_6
     try clear hcz4_0
     try clear hcz4_1
     try clear hcz4_2
     try clear hcz4_3
     try clear hcz4_4
     try clear hcz4_5
     try clear hcz4_6
     try clear hcz8_0
     try clear hcz8_1
     try clear hcz8_2
     try clear hcz8_3
     try clear hcz8_4
     try clear hcz8_5
     try clear hcz8_6
     try clear hcz9_0
     try clear hcz9_1
     try clear hcz9_2
     try clear hcz9_3
     try clear hcz9_4
     try clear hcz9_5
     try clear hcz9_6
     try clear hfz10_0
     try clear hfz10_1
     try clear hfz10_2
     try clear hfz10_3
     try clear hfz10_4
     try clear hfz10_5
     try clear hfz10_6
     try clear hfz4_0
     try clear hfz4_1
     try clear hfz4_2
     try clear hfz4_3
     try clear hfz4_4
     try clear hfz4_5
     try clear hfz4_6
     try clear hfz8_0
     try clear hfz8_1
     try clear hfz8_2
     try clear hfz8_3
     try clear hfz8_4
     try clear hfz8_5
     try clear hfz8_6
     try clear hfz9_0
     try clear hfz9_1
     try clear hfz9_2
     try clear hfz9_3
     try clear hfz9_4
     try clear hfz9_5
     try clear hfz9_6
     try clear hx213_0
     try clear hx213_1
     try clear p2
     try clear p213
     try clear p6
     try clear q2
     try clear q213
     obtain ⟨x3_2, x5_2, rfl, rfl, HA, HK2, BK212, HB⟩ := hrel
     cases gk with
     | zero => exact absurd HA.out (by simp [levylaw7_small.l1])
     | succ k2 =>
      have H := HA.out
      clear HA
      simp only [levylaw7_small.l1] at H
      by_cases c12 : x5_2 < (l0_3.length : Int)
      ·rw [if_pos c12] at H
       have c12b0 : decide (x5_2 < (l0_3.length : Int)) = true := decide_eq_true c12
       clear c12
       (first | rw [c12b0] | (simp only [i64_w, i32_w]; rw [c12b0]) | skip)
       by_cases c13 : x3_2 ≤ 32768
       ·rw [if_pos c13] at H
        have c13b0 : decide (x3_2 ≤ 32768) = true := decide_eq_true c13
        clear c13
        by_cases c14 : 0 ≤ x5_2
        ·rw [if_pos c14] at H
         have c14b0 : decide (0 ≤ x5_2) = true := decide_eq_true c14
         clear c14
         have H' := Aside0.mk H
         clear H
         have hcz15_0 : wr.cell? ⟨gb212, 0, none⟩ = some (.string a0_0) := (blk_cell BK212.out 0).trans rfl
         have hcz15_1 : wr.cell? ⟨gb212, 1, none⟩ = some (.int .i64 a0_1) := (blk_cell BK212.out 1).trans rfl
         have hcz15_2 : wr.cell? ⟨gb212, 2, none⟩ = some (.slice A0_2 l0_2.length c0_2) := (blk_cell BK212.out 2).trans rfl
         have hcz15_3 : wr.cell? ⟨gb212, 3, none⟩ = some (.slice A0_3 l0_3.length c0_3) := (blk_cell BK212.out 3).trans rfl
         have hcz15_4 : wr.cell? ⟨gb212, 4, none⟩ = some (.slice A0_4 l0_4.length c0_4) := (blk_cell BK212.out 4).trans rfl
         have hcz15_5 : wr.cell? ⟨gb212, 5, none⟩ = some (.slice A0_5 l0_5.length c0_5) := (blk_cell BK212.out 5).trans rfl
         have hcz15_6 : wr.cell? ⟨gb212, 6, none⟩ = some (.slice A0_6 l0_6.length c0_6) := (blk_cell BK212.out 6).trans rfl
         have hfz15_0 := blk_frozen BK212.out 0
         have hfz15_1 := blk_frozen BK212.out 1
         have hfz15_2 := blk_frozen BK212.out 2
         have hfz15_3 := blk_frozen BK212.out 3
         have hfz15_4 := blk_frozen BK212.out 4
         have hfz15_5 := blk_frozen BK212.out 5
         have hfz15_6 := blk_frozen BK212.out 6
         have p214 : 0 ≤ (x5_2 : Int) := odx
         have q214 : x5_2 < (l0_3.length : Int) := odx
         obtain ⟨ad214, A214_1, c214_1, e214, hx214_0, hx214_1, hl214_1, hi214_1⟩ := at_T72 HR0_3.out x5_2 p214 q214
         cases e214
         replace hx214_0 := (HB.out.cell (World.block_lt_of_cell? w _ hx214_0)).trans hx214_0
         replace hx214_1 := (HB.out.cell (World.block_lt_of_cell? w _ hx214_1)).trans hx214_1
         have HR214_1 := Aside0.mk hi214_1
         have HC214_1 := Aside0.mk hl214_1
         clear hi214_1 hl214_1
         replace p214 := eq_true p214
         replace q214 := eq_true q214
         go_wp2
         go_roundg k2
         case measure => have := HJ1.out; have := HK2.out; omega
         case rel => exact ⟨(wrap64 (x3_2 + (((rd_T72 l0_3 x5_2).f1).length : Int))), (wrap64 (x5_2 + 1)), (by first | rfl | (simp; done) | (simp [*]; done)), (by first | rfl | (simp; done) | (simp [*]; done)), H', ⟨by have := HJ1.out; have := HK2.out; omega⟩, ⟨bkx⟩, ⟨blx⟩⟩
        ·rw [if_neg c14] at H
         exact absurd H (by simp)
       ·rw [if_neg c13] at H
        have c13b0 : decide (x3_2 ≤ 32768) = false := decide_eq_false c13
        clear c13
        have H' := Aside0.mk H
        clear H
        have hcz16_0 : wr.cell? ⟨gb212, 0, none⟩ = some (.string a0_0) := (blk_cell BK212.out 0).trans rfl
        have hcz16_1 : wr.cell? ⟨gb212, 1, none⟩ = some (.int .i64 a0_1) := (blk_cell BK212.out 1).trans rfl
        have hcz16_2 : wr.cell? ⟨gb212, 2, none⟩ = some (.slice A0_2 l0_2.length c0_2) := (blk_cell BK212.out 2).trans rfl
        have hcz16_3 : wr.cell? ⟨gb212, 3, none⟩ = some (.slice A0_3 l0_3.length c0_3) := (blk_cell BK212.out 3).trans rfl
        have hcz16_4 : wr.cell? ⟨gb212, 4, none⟩ = some (.slice A0_4 l0_4.length c0_4) := (blk_cell BK212.out 4).trans rfl
        have hcz16_5 : wr.cell? ⟨gb212, 5, none⟩ = some (.slice A0_5 l0_5.length c0_5) := (blk_cell BK212.out 5).trans rfl
        have hcz16_6 : wr.cell? ⟨gb212, 6, none⟩ = some (.slice A0_6 l0_6.length c0_6) := (blk_cell BK212.out 6).trans rfl
        have hfz16_0 := blk_frozen BK212.out 0
        have hfz16_1 := blk_frozen BK212.out 1
        have hfz16_2 := blk_frozen BK212.out 2
        have hfz16_3 := blk_frozen BK212.out 3
        have hfz16_4 := blk_frozen BK212.out 4
        have hfz16_5 := blk_frozen BK212.out 5
        have hfz16_6 := blk_frozen BK212.out 6
        go_wp2
        go_meet
        case rel => exact ⟨_, (x3_2), (by first | rfl | (simp; done) | (simp [*]; done)), H', ⟨by have := HJ1.out; have := HK2.out; first | omega | exact Nat.le_refl _⟩, ⟨bkx⟩, ⟨blx⟩⟩
      ·rw [if_neg c12] at H
       have c12b0 : decide (x5_2 < (l0_3.length : Int)) = false := decide_eq_false c12
       clear c12
       (first | rw [c12b0] | (simp only [i64_w, i32_w]; rw [c12b0]) | skip)
       have H' := Aside0.mk H
       clear H
       have hcz17_0 : wr.cell? ⟨gb212, 0, none⟩ = some (.string a0_0) := (blk_cell BK212.out 0).trans rfl
       have hcz17_1 : wr.cell? ⟨gb212, 1, none⟩ = some (.int .i64 a0_1) := (blk_cell BK212.out 1).trans rfl
       have hcz17_2 : wr.cell? ⟨gb212, 2, none⟩ = some (.slice A0_2 l0_2.length c0_2) := (blk_cell BK212.out 2).trans rfl
       have hcz17_3 : wr.cell? ⟨gb212, 3, none⟩ = some (.slice A0_3 l0_3.length c0_3) := (blk_cell BK212.out 3).trans rfl
       have hcz17_4 : wr.cell? ⟨gb212, 4, none⟩ = some (.slice A0_4 l0_4.length c0_4) := (blk_cell BK212.out 4).trans rfl
       have hcz17_5 : wr.cell? ⟨gb212, 5, none⟩ = some (.slice A0_5 l0_5.length c0_5) := (blk_cell BK212.out 5).trans rfl
       have hcz17_6 : wr.cell? ⟨gb212, 6, none⟩ = some (.slice A0_6 l0_6.length c0_6) := (blk_cell BK212.out 6).trans rfl
       have hfz17_0 := blk_frozen BK212.out 0
       have hfz17_1 := blk_frozen BK212.out 1
       have hfz17_2 := blk_frozen BK212.out 2
       have hfz17_3 := blk_frozen BK212.out 3
       have hfz17_4 := blk_frozen BK212.out 4
       have hfz17_5 := blk_frozen BK212.out 5
       have hfz17_6 := blk_frozen BK212.out 6
       go_wp2
       go_meet
       case rel => exact ⟨_, (x3_2), (by first | rfl | (simp; done) | (simp [*]; done)), H', ⟨by have := HJ1.out; have := HK2.out; first | omega | exact Nat.le_refl _⟩, ⟨bkx⟩, ⟨blx⟩⟩
   case rest =>
    clear HC11
    try clear c1
    try clear c2
    try clear p2
    try clear q2
    try clear hx2
    try clear c5
    try clear c5b0
    try clear c6
    try clear c6b0
    try clear p6
    try clear c7
    try clear c7b0
    try clear c12
    try clear c12b0
    try clear c13
    try clear c13b0
    try clear c14
    try clear c14b0
    try clear hcz10_0
    try clear hcz10_1
    try clear hcz10_2
    try clear hcz10_3
    try clear hcz10_4
    try clear hcz10_5
    try clear hcz10_6
    try clear hcz15_0
    try clear hcz15_1
    try clear hcz15_2
    try clear hcz15_3
    try clear hcz15_4
    try clear hcz15_5
    try clear hcz15_6
    try clear hcz16_0
    try clear hcz16_1
    try clear hcz16_2
    try clear hcz16_3
    try clear hcz16_4
    try clear hcz16_5
    try clear hcz16_6
    try clear hcz17_0
    try clear hcz17_1
    try clear hcz17_2
    try clear hcz17_3
    try clear hcz17_4
    try clear hcz17_5
    try clear hcz17_6
    try clear hcz4_0
    try clear hcz4_1
    try clear hcz4_2
    try clear hcz4_3
    try clear hcz4_4
    try clear hcz4_5
    try clear hcz4_6
    try clear hcz8_0
    try clear hcz8_1
    try clear hcz8_2
    try clear hcz8_3
    try clear hcz8_4
    try clear hcz8_5
    try clear hcz8_6
    try clear hcz9_0
    try clear hcz9_1
    try clear hcz9_2
    try clear hcz9_3
    try clear hcz9_4
    try clear hcz9_5
    try clear hcz9_6
    try clear hfz10_0
    try clear hfz10_1
    try clear hfz10_2
    try clear hfz10_3
    try clear hfz10_4
    try clear hfz10_5
    try clear hfz10_6
    try clear hfz15_0
    try clear hfz15_1
    try clear hfz15_2
    try clear hfz15_3
    try clear hfz15_4
    try clear hfz15_5
    try clear hfz15_6
    try clear hfz16_0
    try clear hfz16_1
    try clear hfz16_2
    try clear hfz16_3
    try clear hfz16_4
    try clear hfz16_5
    try clear hfz16_6
    try clear hfz17_0
    try clear hfz17_1
    try clear hfz17_2
    try clear hfz17_3
    try clear hfz17_4
    try clear hfz17_5
    try clear hfz17_6
    try clear hfz4_0
    try clear hfz4_1
    try clear hfz4_2
    try clear hfz4_3
    try clear hfz4_4
    try clear hfz4_5
    try clear hfz4_6
    try clear hfz8_0
    try clear hfz8_1
    try clear hfz8_2
    try clear hfz8_3
    try clear hfz8_4
    try clear hfz8_5
    try clear hfz8_6
    try clear hfz9_0
    try clear hfz9_1
    try clear hfz9_2
    try clear hfz9_3
    try clear hfz9_4
    try clear hfz9_5
    try clear hfz9_6
    try clear hx213_0
    try clear hx213_1
    try clear hx214_0
    try clear hx214_1
    try clear p2
    try clear p213
    try clear p214
    try clear p6
    try clear q2
    try clear q213
    try clear q214
    obtain ⟨kq, x3_10, rfl, HA, HJ10, BK212, HB⟩ := hcut
    cases kq with
    | zero => exact absurd HA.out (by simp [levylaw7_small.j3])
    | succ kj10 =>
     have H := HA.out
     clear HA
     simp only [levylaw7_small.j3] at H
     have H' := Aside0.mk H
     clear H
     go_wp2
     go_loopg [3, 6] kj10 (fun kq v3 v6 w' => ∃ (x3_3 : Int) (x6_3 : Int), v3 = .int .i64 x3_3 ∧ v6 = .int .i64 x6_3 ∧ Aside0 (levylaw7_small.l2 kq x3_3 x6_3 a0_0 a0_1 l0_2 l0_3 l0_4 l0_5 l0_6 = some r) ∧ Aside0 (kq ≤ kj10) ∧ Aside0 (w'.heap[gb212]? = some (.cells #[.string a0_0, .int .i64 a0_1, (.slice A0_2 l0_2.length c0_2), (.slice A0_3 l0_3.length c0_3), (.slice A0_4 l0_4.length c0_4), (.slice A0_5 l0_5.length c0_5), (.slice A0_6 l0_6.length c0_6)] 33 (0, 0))) ∧ Aside0 (Below w.heap.size w w'))
     case atStart => exact ⟨(x3_10), (0), (by first | rfl | (simp; done) | (simp [*]; done)), (by first | rfl | (simp; done) | (simp [*]; done)), H', ⟨Nat.le_refl _⟩, ⟨bkx⟩, ⟨blx⟩⟩
     case round =>
      clear H'
      try clear c1
      try clear c2
      try clear p2
      try clear q2
      try clear hx2
      try clear c5
      try clear c5b0
      try clear c6
      try clear c6b0
      try clear p6
      try clear c7
      try clear c7b0
      try clear c12
      try clear c12b0
      try clear c13
      try clear c13b0
      try clear c14
      try clear c14b0
      try clear hcz10_0
      try clear hcz10_1
      try clear hcz10_2
      try clear hcz10_3
      try clear hcz10_4
      try clear hcz10_5
      try clear hcz10_6
      try clear hcz15_0
      try clear hcz15_1
      try clear hcz15_2
      try clear hcz15_3
      try clear hcz15_4
      try clear hcz15_5
      try clear hcz15_6
      try clear hcz16_0
      try clear hcz16_1
      try clear hcz16_2
      try clear hcz16_3
      try clear hcz16_4
      try clear hcz16_5
      try clear hcz16_6
      try clear hcz17_0
      try clear hcz17_1
      try clear hcz17_2
      try clear hcz17_3
      try clear hcz17_4
      try clear hcz17_5
      try clear hcz17_6
      try clear hcz4_0
      try clear hcz4_1
      try clear hcz4_2
      try clear hcz4_3
      try clear hcz4_4
      try clear hcz4_5
      try clear hcz4_6
      try clear hcz8_0
      try clear hcz8_1
      try clear hcz8_2
      try clear hcz8_3
      try clear hcz8_4
      try clear hcz8_5
      try clear hcz8_6
      try clear hcz9_0
      try clear hcz9_1
      try clear hcz9_2
      try clear hcz9_3
      try clear hcz9_4
      try clear hcz9_5
      try clear hcz9_6
      try clear hfz10_0
      try clear hfz10_1
      try clear hfz10_2
      try clear hfz10_3
      try clear hfz10_4
      try clear hfz10_5
      try clear hfz10_6
      try clear hfz15_0
      try clear hfz15_1
      try clear hfz15_2
      try clear hfz15_3
      try clear hfz15_4
      try clear hfz15_5
      try clear hfz15_6
      try clear hfz16_0
      try clear hfz16_1
      try clear hfz16_2
      try clear hfz16_3
      try clear hfz16_4
      try clear hfz16_5
      try clear hfz16_6
      try clear hfz17_0
      try clear hfz17_1
      try clear hfz17_2
      try clear hfz17_3
      try clear hfz17_4
      try clear hfz17_5
      try clear hfz17_6
      try clear hfz4_0
      try clear hfz4_1
      try clear hfz4_2
      try clear hfz4_3
      try clear hfz4_4
      try clear hfz4_5
      try clear hfz4_6
      try clear hfz8_0
      try clear hfz8_1
      try clear hfz8_2
      try clear hfz8_3
      try clear hfz8_4
      try clear hfz8_5
      try clear hfz8_6
      try clear hfz9_0
      try clear hfz9_1
      try clear hfz9_2
      try clear hfz9_3
      try clear hfz9_4
      try clear hfz9_5
      try clear hfz9_6
      try clear hx213_0
      try clear hx213_1
      try clear hx214_0
      try clear hx214_1
      try clear p2
      try clear p213
      try clear p214
      try clear p6
      try clear q2
      try clear q213
      try clear q214
      obtain ⟨x3_3, x6_3, rfl, rfl, HA, HK3, BK212, HB⟩ := hrel
      cases gk with
      | zero => exact absurd HA.out (by simp [levylaw7_small.l2])
      | succ k3 =>
       have H := HA.out
       clear HA
       simp only [levylaw7_small.l2] at H
       have HC18 := Aside0.mk H
       clear H
       go_upto_region 11 with (fail)
       go_cut [80] (fun v80 wc => ∃ (kq : Nat) (x80_17 : Bool), v80 = .bool x80_17 ∧ Aside0 (levylaw7_small.j5 kq x3_3 x6_3 x80_17 a0_0 a0_1 l0_2 l0_3 l0_4 l0_5 l0_6 = some r) ∧ Aside0 (kq ≤ k3) ∧ Aside0 (wc.heap[gb212]? = some (.cells #[.string a0_0, .int .i64 a0_1, (.slice A0_2 l0_2.length c0_2), (.slice A0_3 l0_3.length c0_3), (.slice A0_4 l0_4.length c0_4), (.slice A0_5 l0_5.length c0_5), (.slice A0_6 l0_6.length c0_6)] 33 (0, 0))) ∧ Aside0 (Below w.heap.size w wc))
       case first =>
        have H := HC18.out
        clear HC18
        by_cases c19 : x6_3 < (l0_5.length : Int)
        ·rw [if_pos c19] at H
         have c19b0 : decide (x6_3 < (l0_5.length : Int)) = true := decide_eq_true c19
         clear c19
         (first | rw [c19b0] | (simp only [i64_w, i32_w]; rw [c19b0]) | skip)
         have H' := Aside0.mk H
         clear H
         have hcz20_0 : wr.cell? ⟨gb212, 0, none⟩ = some (.string a0_0) := (blk_cell BK212.out 0).trans rfl
         have hcz20_1 : wr.cell? ⟨gb212, 1, none⟩ = some (.int .i64 a0_1) := (blk_cell BK212.out 1).trans rfl
         have hcz20_2 : wr.cell? ⟨gb212, 2, none⟩ = some (.slice A0_2 l0_2.length c0_2) := (blk_cell BK212.out 2).trans rfl
         have hcz20_3 : wr.cell? ⟨gb212, 3, none⟩ = some (.slice A0_3 l0_3.length c0_3) := (blk_cell BK212.out 3).trans rfl
         have hcz20_4 : wr.cell? ⟨gb212, 4, none⟩ = some (.slice A0_4 l0_4.length c0_4) := (blk_cell BK212.out 4).trans rfl
         have hcz20_5 : wr.cell? ⟨gb212, 5, none⟩ = some (.slice A0_5 l0_5.length c0_5) := (blk_cell BK212.out 5).trans rfl
         have hcz20_6 : wr.cell? ⟨gb212, 6, none⟩ = some (.slice A0_6 l0_6.length c0_6) := (blk_cell BK212.out 6).trans rfl
         have hfz20_0 := blk_frozen BK212.out 0
         have hfz20_1 := blk_frozen BK212.out 1
         have hfz20_2 := blk_frozen BK212.out 2
         have hfz20_3 := blk_frozen BK212.out 3
         have hfz20_4 := blk_frozen BK212.out 4
         have hfz20_5 := blk_frozen BK212.out 5
         have hfz20_6 := blk_frozen BK212.out 6
         go_wp2
         go_meet
         case rel => exact ⟨_, (decide (x3_3 ≤ 32768)), (by first | rfl | (simp; done) | (simp [*]; done)), H', ⟨by have := HJ1.out; have := HJ10.out; have := HK3.out; first | omega | exact Nat.le_refl _⟩, ⟨bkx⟩, ⟨blx⟩⟩
        ·rw [if_neg c19] at H
         have c19b0 : decide (x6_3 < (l0_5.length : Int)) = false := decide_eq_false c19
         clear c19
         (first | rw [c19b0] | (simp only [i64_w, i32_w]; rw [c19b0]) | skip)
         have H' := Aside0.mk H
         clear H
         have hcz21_0 : wr.cell? ⟨gb212, 0, none⟩ = some (.string a0_0) := (blk_cell BK212.out 0).trans rfl
         have hcz21_1 : wr.cell? ⟨gb212, 1, none⟩ = some (.int .i64 a0_1) := (blk_cell BK212.out 1).trans rfl
         have hcz21_2 : wr.cell? ⟨gb212, 2, none⟩ = some (.slice A0_2 l0_2.length c0_2) := (blk_cell BK212.out 2).trans rfl
         have hcz21_3 : wr.cell? ⟨gb212, 3, none⟩ = some (.slice A0_3 l0_3.length c0_3) := (blk_cell BK212.out 3).trans rfl
         have hcz21_4 : wr.cell? ⟨gb212, 4, none⟩ = some (.slice A0_4 l0_4.length c0_4) := (blk_cell BK212.out 4).trans rfl
         have hcz21_5 : wr.cell? ⟨gb212, 5, none⟩ = some (.slice A0_5 l0_5.length c0_5) := (blk_cell BK212.out 5).trans rfl
         have hcz21_6 : wr.cell? ⟨gb212, 6, none⟩ = some (.slice A0_6 l0_6.length c0_6) := (blk_cell BK212.out 6).trans rfl
         have hfz21_0 := blk_frozen BK212.out 0
         have hfz21_1 := blk_frozen BK212.out 1
         have hfz21_2 := blk_frozen BK212.out 2
         have hfz21_3 := blk_frozen BK212.out 3
         have hfz21_4 := blk_frozen BK212.out 4
         have hfz21_5 := blk_frozen BK212.out 5
         have hfz21_6 := blk_frozen BK212.out 6
         go_wp2
         go_meet
         case rel => exact ⟨_, (false), (by first | rfl | (simp; done) | (simp [*]; done)), H', ⟨by have := HJ1.out; have := HJ10.out; have := HK3.out; first | omega | exact Nat.le_refl _⟩, ⟨bkx⟩, ⟨blx⟩⟩
       case rest =>
        clear HC18
        try clear c1
        try clear c2
        try clear p2
        try clear q2
        try clear hx2
        try clear c5
        try clear c5b0
        try clear c6
        try clear c6b0
        try clear p6
        try clear c7
        try clear c7b0
        try clear c12
        try clear c12b0
        try clear c13
        try clear c13b0
        try clear c14
        try clear c14b0
        try clear c19
        try clear c19b0
        try clear c21
        try clear p21
        try clear q21
        try clear hx21
        try clear hcz10_0
        try clear hcz10_1
        try clear hcz10_2
        try clear hcz10_3
        try clear hcz10_4
        try clear hcz10_5
        try clear hcz10_6
        try clear hcz15_0
        try clear hcz15_1
        try clear hcz15_2
        try clear hcz15_3
        try clear hcz15_4
        try clear hcz15_5
        try clear hcz15_6
        try clear hcz16_0
        try clear hcz16_1
        try clear hcz16_2
        try clear hcz16_3
        try clear hcz16_4
        try clear hcz16_5
        try clear hcz16_6
        try clear hcz17_0
        try clear hcz17_1
        try clear hcz17_2
        try clear hcz17_3
        try clear hcz17_4
        try clear hcz17_5
        try clear hcz17_6
        try clear hcz20_0
        try clear hcz20_1
        try clear hcz20_2
        try clear hcz20_3
        try clear hcz20_4
        try clear hcz20_5
        try clear hcz20_6
        try clear hcz21_0
        try clear hcz21_1
        try clear hcz21_2
        try clear hcz21_3
        try clear hcz21_4
        try clear hcz21_5
        try clear hcz21_6
        try clear hcz4_0
        try clear hcz4_1
        try clear hcz4_2
        try clear hcz4_3
        try clear hcz4_4
        try clear hcz4_5
        try clear hcz4_6
        try clear hcz8_0
        try clear hcz8_1
        try clear hcz8_2
        try clear hcz8_3
        try clear hcz8_4
        try clear hcz8_5
        try clear hcz8_6
        try clear hcz9_0
        try clear hcz9_1
        try clear hcz9_2
        try clear hcz9_3
        try clear hcz9_4
        try clear hcz9_5
        try clear hcz9_6
        try clear hfz10_0
        try clear hfz10_1
        try clear hfz10_2
        try clear hfz10_3
        try clear hfz10_4
        try clear hfz10_5
        try clear hfz10_6
        try clear hfz15_0
        try clear hfz15_1
        try clear hfz15_2
        try clear hfz15_3
        try clear hfz15_4
        try clear hfz15_5
        try clear hfz15_6
        try clear hfz16_0
        try clear hfz16_1
        try clear hfz16_2
        try clear hfz16_3
        try clear hfz16_4
        try clear hfz16_5
        try clear hfz16_6
        try clear hfz17_0
        try clear hfz17_1
        try clear hfz17_2
        try clear hfz17_3
        try clear hfz17_4
        try clear hfz17_5
        try clear hfz17_6
        try clear hfz20_0
        try clear hfz20_1
        try clear hfz20_2
        try clear hfz20_3
        try clear hfz20_4
        try clear hfz20_5
        try clear hfz20_6
        try clear hfz21_0
        try clear hfz21_1
        try clear hfz21_2
        try clear hfz21_3
        try clear hfz21_4
        try clear hfz21_5
        try clear hfz21_6
        try clear hfz4_0
        try clear hfz4_1
        try clear hfz4_2
        try clear hfz4_3
        try clear hfz4_4
        try clear hfz4_5
        try clear hfz4_6
        try clear hfz8_0
        try clear hfz8_1
        try clear hfz8_2
        try clear hfz8_3
        try clear hfz8_4
        try clear hfz8_5
        try clear hfz8_6
        try clear hfz9_0
        try clear hfz9_1
        try clear hfz9_2
        try clear hfz9_3
        try clear hfz9_4
        try clear hfz9_5
        try clear hfz9_6
        try clear hx213_0
        try clear hx213_1
        try clear hx214_0
        try clear hx214_1
        try clear p2
        try clear p213
        try clear p214
        try clear p6
        try clear q2
        try clear q213
        try clear q214
        obtain ⟨kq, x80_17, rfl, HA, HJ17, BK212, HB⟩ := hcut
        cases kq with
        | zero => exact absurd HA.out (by simp [levylaw7_small.j5])
        | succ kj17 =>
         have H := HA.out
         clear HA
         simp only [levylaw7_small.j5] at H
         by_cases c22 : x80_17 = true
         ·subst c22
          have H1 : (if 0 ≤ x6_3 then (if x6_3 < (l0_5.length : Int) then (levylaw7_small.l3 kj17 (wrap64 (x3_3 + (((rd_T77 l0_5 x6_3).f0).size : Int))) x6_3 0 a0_0 a0_1 l0_2 l0_3 l0_4 l0_5 l0_6) else (none)) else (none)) = some r := by rw [if_pos rfl] at H; exact H
          clear H
          have H := H1
          clear H1
          by_cases c23 : 0 ≤ x6_3
          ·rw [if_pos c23] at H
           have c23b0 : decide (0 ≤ x6_3) = true := decide_eq_true c23
           clear c23
           by_cases c24 : x6_3 < (l0_5.length : Int)
           ·rw [if_pos c24] at H
            have c24b0 : decide (x6_3 < (l0_5.length : Int)) = true := decide_eq_true c24
            clear c24
            have H' := Aside0.mk H
            clear H
            have hcz25_0 : wc.cell? ⟨gb212, 0, none⟩ = some (.string a0_0) := (blk_cell BK212.out 0).trans rfl
            have hcz25_1 : wc.cell? ⟨gb212, 1, none⟩ = some (.int .i64 a0_1) := (blk_cell BK212.out 1).trans rfl
            have hcz25_2 : wc.cell? ⟨gb212, 2, none⟩ = some (.slice A0_2 l0_2.length c0_2) := (blk_cell BK212.out 2).trans rfl
            have hcz25_3 : wc.cell? ⟨gb212, 3, none⟩ = some (.slice A0_3 l0_3.length c0_3) := (blk_cell BK212.out 3).trans rfl
            have hcz25_4 : wc.cell? ⟨gb212, 4, none⟩ = some (.slice A0_4 l0_4.length c0_4) := (blk_cell BK212.out 4).trans rfl
            have hcz25_5 : wc.cell? ⟨gb212, 5, none⟩ = some (.slice A0_5 l0_5.length c0_5) := (blk_cell BK212.out 5).trans rfl
            have hcz25_6 : wc.cell? ⟨gb212, 6, none⟩ = some (.slice A0_6 l0_6.length c0_6) := (blk_cell BK212.out 6).trans rfl
            have hfz25_0 := blk_frozen BK212.out 0
            have hfz25_1 := blk_frozen BK212.out 1
            have hfz25_2 := blk_frozen BK212.out 2
            have hfz25_3 := blk_frozen BK212.out 3
            have hfz25_4 := blk_frozen BK212.out 4
            have hfz25_5 := blk_frozen BK212.out 5
            have hfz25_6 := blk_frozen BK212.out 6
            have p215 : 0 ≤ (x6_3 : Int) := odx
            have q215 : x6_3 < (l0_5.length : Int) := odx
            obtain ⟨ad215, A215_6, c215_6, e215, hx215_0, hx215_1, hx215_2, hx215_3, hx215_4, hx215_5, hx215_6, hl215_6, hi215_6⟩ := at_T77 HR0_5.out x6_3 p215 q215
            cases e215
            replace hx215_0 := (HB.out.cell (World.block_lt_of_cell? w _ hx215_0)).trans hx215_0
            replace hx215_1 := (HB.out.cell (World.block_lt_of_cell? w _ hx215_1)).trans hx215_1
            replace hx215_2 := (HB.out.cell (World.block_lt_of_cell? w _ hx215_2)).trans hx215_2
            replace hx215_3 := (HB.out.cell (World.block_lt_of_cell? w _ hx215_3)).trans hx215_3
            replace hx215_4 := (HB.out.cell (World.block_lt_of_cell? w _ hx215_4)).trans hx215_4
            replace hx215_5 := (HB.out.cell (World.block_lt_of_cell? w _ hx215_5)).trans hx215_5
            replace hx215_6 := (HB.out.cell (World.block_lt_of_cell? w _ hx215_6)).trans hx215_6
            have HR215_6 := Aside0.mk hi215_6
            have HC215_6 := Aside0.mk hl215_6
            clear hi215_6 hl215_6
            replace p215 := eq_true p215
            replace q215 := eq_true q215
            go_wp2
            go_loopg [3, 7] kj17 (fun kq v3 v7 w' => ∃ (x3_5 : Int) (x7_5 : Int), v3 = .int .i64 x3_5 ∧ v7 = .int .i64 x7_5 ∧ Aside0 (levylaw7_small.l3 kq x3_5 x6_3 x7_5 a0_0 a0_1 l0_2 l0_3 l0_4 l0_5 l0_6 = some r) ∧ Aside0 (kq ≤ kj17) ∧ Aside0 (w'.heap[gb212]? = some (.cells #[.string a0_0, .int .i64 a0_1, (.slice A0_2 l0_2.length c0_2), (.slice A0_3 l0_3.length c0_3), (.slice A0_4 l0_4.length c0_4), (.slice (some ad215) l0_5.length c0_5), (.slice A0_6 l0_6.length c0_6)] 33 (0, 0))) ∧ Aside0 (Below w.heap.size w w'))
            case atStart => exact ⟨(wrap64 (x3_3 + (((rd_T77 l0_5 x6_3).f0).size : Int))), (0), (by first | rfl | (simp; done) | (simp [*]; done)), (by first | rfl | (simp; done) | (simp [*]; done)), H', ⟨Nat.le_refl _⟩, ⟨bkx⟩, ⟨blx⟩⟩
            case round =>
             clear H'
             try clear c1
             try clear c2
             try clear p2
             try clear q2
             try clear hx2
             try clear c5
             try clear c5b0
             try clear c6
             try clear c6b0
             try clear p6
             try clear c7
             try clear c7b0
             try clear c12
             try clear c12b0
             try clear c13
             try clear c13b0
             try clear c14
             try clear c14b0
             try clear c19
             try clear c19b0
             try clear c21
             try clear p21
             try clear q21
             try clear hx21
             try clear c22
             try clear c23
             try clear c23b0
             try clear c24
             try clear c24b0
             try clear hcz10_0
             try clear hcz10_1
             try clear hcz10_2
             try clear hcz10_3
             try clear hcz10_4
             try clear hcz10_5
             try clear hcz10_6
             try clear hcz15_0
             try clear hcz15_1
             try clear hcz15_2
             try clear hcz15_3
             try clear hcz15_4
             try clear hcz15_5
             try clear hcz15_6
             try clear hcz16_0
             try clear hcz16_1
             try clear hcz16_2
             try clear hcz16_3
             try clear hcz16_4
             try clear hcz16_5
             try clear hcz16_6
             try clear hcz17_0
             try clear hcz17_1
             try clear hcz17_2
             try clear hcz17_3
             try clear hcz17_4
             try clear hcz17_5
             try clear hcz17_6
             try clear hcz20_0
             try clear hcz20_1
             try clear hcz20_2
             try clear hcz20_3
             try clear hcz20_4
             try clear hcz20_5
             try clear hcz20_6
             try clear hcz21_0
             try clear hcz21_1
             try clear hcz21_2
             try clear hcz21_3
             try clear hcz21_4
             try clear hcz21_5
             try clear hcz21_6
             try clear hcz25_0
             try clear hcz25_1
             try clear hcz25_2
             try clear hcz25_3
             try clear hcz25_4
             try clear hcz25_5
             try clear hcz25_6
             try clear hcz4_0
             try clear hcz4_1
             try clear hcz4_2
             try clear hcz4_3
             try clear hcz4_4
             try clear hcz4_5
             try clear hcz4_6
             try clear hcz8_0
             try clear hcz8_1
             try clear hcz8_2
             try clear hcz8_3
             try clear hcz8_4
             try clear hcz8_5
             try clear hcz8_6
             try clear hcz9_0
             try clear hcz9_1
             try clear hcz9_2
             try clear hcz9_3
             try clear hcz9_4
             try clear hcz9_5
             try clear hcz9_6
             try clear hfz10_0
             try clear hfz10_1
             try clear hfz10_2
             try clear hfz10_3
             try clear hfz10_4
             try clear hfz10_5
             try clear hfz10_6
             try clear hfz15_0
             try clear hfz15_1
             try clear hfz15_2
             try clear hfz15_3
             try clear hfz15_4
             try clear hfz15_5
             try clear hfz15_6
             try clear hfz16_0
             try clear hfz16_1
             try clear hfz16_2
             try clear hfz16_3
             try clear hfz16_4
             try clear hfz16_5
             try clear hfz16_6
             try clear hfz17_0
             try clear hfz17_1
             try clear hfz17_2
             try clear hfz17_3
             try clear hfz17_4
             try clear hfz17_5
             try clear hfz17_6
             try clear hfz20_0
             try clear hfz20_1
             try clear hfz20_2
             try clear hfz20_3
             try clear hfz20_4
             try clear hfz20_5
             try clear hfz20_6
             try clear hfz21_0
             try clear hfz21_1
             try clear hfz21_2
             try clear hfz21_3
             try clear hfz21_4
             try clear hfz21_5
             try clear hfz21_6
             try clear hfz25_0
             try clear hfz25_1
             try clear hfz25_2
             try clear hfz25_3
             try clear hfz25_4
             try clear hfz25_5
             try clear hfz25_6
             try clear hfz4_0
             try clear hfz4_1
             try clear hfz4_2
             try clear hfz4_3
             try clear hfz4_4
             try clear hfz4_5
             try clear hfz4_6
             try clear hfz8_0
             try clear hfz8_1
             try clear hfz8_2
             try clear hfz8_3
             try clear hfz8_4
             try clear hfz8_5
             try clear hfz8_6
             try clear hfz9_0
             try clear hfz9_1
             try clear hfz9_2
             try clear hfz9_3
             try clear hfz9_4
             try clear hfz9_5
             try clear hfz9_6
             try clear hx213_0
             try clear hx213_1
             try clear hx214_0
             try clear hx214_1
             try clear hx215_0
             try clear hx215_1
             try clear hx215_2
             try clear hx215_3
             try clear hx215_4
             try clear hx215_5
             try clear hx215_6
             try clear p2
             try clear p21
             try clear p213
             try clear p214
             try clear p215
             try clear p6
             try clear q2
             try clear q21
             try clear q213
             try clear q214
             try clear q215
             obtain ⟨x3_5, x7_5, rfl, rfl, HA, HK5, BK212, HB⟩ := hrel
             cases gk with
             | zero => exact absurd HA.out (by simp [levylaw7_small.l3])
             | succ k5 =>
              have H := HA.out
              clear HA
              simp only [levylaw7_small.l3] at H
              have HC26 := Aside0.mk H
              clear H
              go_upto_region 15 with (fail)
              go_cut [104] (fun v104 wc => ∃ (kq : Nat) (x104_25 : Bool), v104 = .bool x104_25 ∧ Aside0 (levylaw7_small.j7 kq x3_5 x6_3 x7_5 x104_25 a0_0 a0_1 l0_2 l0_3 l0_4 l0_5 l0_6 = some r) ∧ Aside0 (kq ≤ k5) ∧ Aside0 (wc.heap[gb212]? = some (.cells #[.string a0_0, .int .i64 a0_1, (.slice A0_2 l0_2.length c0_2), (.slice A0_3 l0_3.length c0_3), (.slice A0_4 l0_4.length c0_4), (.slice (some ad215) l0_5.length c0_5), (.slice A0_6 l0_6.length c0_6)] 33 (0, 0))) ∧ Aside0 (Below w.heap.size w wc))
              case first =>
               have H := HC26.out
               clear HC26
               by_cases c27 : 0 ≤ x6_3
               ·rw [if_pos c27] at H
                have c27b0 : decide (0 ≤ x6_3) = true := decide_eq_true c27
                clear c27
                (first | rw [c27b0] | (simp only [i64_w, i32_w]; rw [c27b0]) | skip)
                by_cases c28 : x6_3 < (l0_5.length : Int)
                ·rw [if_pos c28] at H
                 have c28b0 : decide (x6_3 < (l0_5.length : Int)) = true := decide_eq_true c28
                 clear c28
                 by_cases c29 : x7_5 < (((rd_T77 l0_5 x6_3).f6).length : Int)
                 ·rw [if_pos c29] at H
                  have c29b0 : decide (x7_5 < (((rd_T77 l0_5 x6_3).f6).length : Int)) = true := decide_eq_true c29
                  clear c29
                  have H' := Aside0.mk H
                  clear H
                  have hcz30_0 : wr.cell? ⟨gb212, 0, none⟩ = some (.string a0_0) := (blk_cell BK212.out 0).trans rfl
                  have hcz30_1 : wr.cell? ⟨gb212, 1, none⟩ = some (.int .i64 a0_1) := (blk_cell BK212.out 1).trans rfl
                  have hcz30_2 : wr.cell? ⟨gb212, 2, none⟩ = some (.slice A0_2 l0_2.length c0_2) := (blk_cell BK212.out 2).trans rfl
                  have hcz30_3 : wr.cell? ⟨gb212, 3, none⟩ = some (.slice A0_3 l0_3.length c0_3) := (blk_cell BK212.out 3).trans rfl
                  have hcz30_4 : wr.cell? ⟨gb212, 4, none⟩ = some (.slice A0_4 l0_4.length c0_4) := (blk_cell BK212.out 4).trans rfl
                  have hcz30_5 : wr.cell? ⟨gb212, 5, none⟩ = some (.slice (some ad215) l0_5.length c0_5) := (blk_cell BK212.out 5).trans rfl
                  have hcz30_6 : wr.cell? ⟨gb212, 6, none⟩ = some (.slice A0_6 l0_6.length c0_6) := (blk_cell BK212.out 6).trans rfl
                  have hfz30_0 := blk_frozen BK212.out 0
                  have hfz30_1 := blk_frozen BK212.out 1
                  have hfz30_2 := blk_frozen BK212.out 2
                  have hfz30_3 := blk_frozen BK212.out 3
                  have hfz30_4 := blk_frozen BK212.out 4
                  have hfz30_5 := blk_frozen BK212.out 5
                  have hfz30_6 := blk_frozen BK212.out 6
                  have p216 : 0 ≤ (x6_3 : Int) := odx
                  have q216 : x6_3 < (l0_5.length : Int) := odx
                  obtain ⟨ad216, A216_6, c216_6, e216, hx216_0, hx216_1, hx216_2, hx216_3, hx216_4, hx216_5, hx216_6, hl216_6, hi216_6⟩ := at_T77 HR0_5.out x6_3 p216 q216
                  obtain rfl : ad215 = ad216 := (by injection e216)
                  replace hx216_0 := (HB.out.cell (World.block_lt_of_cell? w _ hx216_0)).trans hx216_0
                  replace hx216_1 := (HB.out.cell (World.block_lt_of_cell? w _ hx216_1)).trans hx216_1
                  replace hx216_2 := (HB.out.cell (World.block_lt_of_cell? w _ hx216_2)).trans hx216_2
                  replace hx216_3 := (HB.out.cell (World.block_lt_of_cell? w _ hx216_3)).trans hx216_3
                  replace hx216_4 := (HB.out.cell (World.block_lt_of_cell? w _ hx216_4)).trans hx216_4
                  replace hx216_5 := (HB.out.cell (World.block_lt_of_cell? w _ hx216_5)).trans hx216_5
                  replace hx216_6 := (HB.out.cell (World.block_lt_of_cell? w _ hx216_6)).trans hx216_6
                  have HR216_6 := Aside0.mk hi216_6
                  have HC216_6 := Aside0.mk hl216_6
                  clear hi216_6 hl216_6
                  replace p216 := eq_true p216
                  replace q216 := eq_true q216
                  go_wp2
                  go_meet
                  case rel => exact ⟨_, (decide (x3_5 ≤ 32768)), (by first | rfl | (simp; done) | (simp [*]; done)), H', ⟨by have := HJ1.out; have := HJ10.out; have := HK3.out; have := HJ17.out; have := HK5.out; first | omega | exact Nat.le_refl _⟩, ⟨bkx⟩, ⟨blx⟩⟩
                 ·rw [if_neg c29] at H
                  have c29b0 : decide (x7_5 < (((rd_T77 l0_5 x6_3).f6).length : Int)) = false := decide_eq_false c29
                  clear c29
                  have H' := Aside0.mk H
                  clear H
                  have hcz31_0 : wr.cell? ⟨gb212, 0, none⟩ = some (.string a0_0) := (blk_cell BK212.out 0).trans rfl
                  have hcz31_1 : wr.cell? ⟨gb212, 1, none⟩ = some (.int .i64 a0_1) := (blk_cell BK212.out 1).trans rfl
                  have hcz31_2 : wr.cell? ⟨gb212, 2, none⟩ = some (.slice A0_2 l0_2.length c0_2) := (blk_cell BK212.out 2).trans rfl
                  have hcz31_3 : wr.cell? ⟨gb212, 3, none⟩ = some (.slice A0_3 l0_3.length c0_3) := (blk_cell BK212.out 3).trans rfl
                  have hcz31_4 : wr.cell? ⟨gb212, 4, none⟩ = some (.slice A0_4 l0_4.length c0_4) := (blk_cell BK212.out 4).trans rfl
                  have hcz31_5 : wr.cell? ⟨gb212, 5, none⟩ = some (.slice (some ad215) l0_5.length c0_5) := (blk_cell BK212.out 5).trans rfl
                  have hcz31_6 : wr.cell? ⟨gb212, 6, none⟩ = some (.slice A0_6 l0_6.length c0_6) := (blk_cell BK212.out 6).trans rfl
                  have hfz31_0 := blk_frozen BK212.out 0
                  have hfz31_1 := blk_frozen BK212.out 1
                  have hfz31_2 := blk_frozen BK212.out 2
                  have hfz31_3 := blk_frozen BK212.out 3
                  have hfz31_4 := blk_frozen BK212.out 4
                  have hfz31_5 := blk_frozen BK212.out 5
                  have hfz31_6 := blk_frozen BK212.out 6
                  have p216 : 0 ≤ (x6_3 : Int) := odx
                  have q216 : x6_3 < (l0_5.length : Int) := odx
                  obtain ⟨ad216, A216_6, c216_6, e216, hx216_0, hx216_1, hx216_2, hx216_3, hx216_4, hx216_5, hx216_6, hl216_6, hi216_6⟩ := at_T77 HR0_5.out x6_3 p216 q216
                  obtain rfl : ad215 = ad216 := (by injection e216)
                  replace hx216_0 := (HB.out.cell (World.block_lt_of_cell? w _ hx216_0)).trans hx216_0
                  replace hx216_1 := (HB.out.cell (World.block_lt_of_cell? w _ hx216_1)).trans hx216_1
                  replace hx216_2 := (HB.out.cell (World.block_lt_of_cell? w _ hx216_2)).trans hx216_2
                  replace hx216_3 := (HB.out.cell (World.block_lt_of_cell? w _ hx216_3)).trans hx216_3
                  replace hx216_4 := (HB.out.cell (World.block_lt_of_cell? w _ hx216_4)).trans hx216_4
                  replace hx216_5 := (HB.out.cell (World.block_lt_of_cell? w _ hx216_5)).trans hx216_5
                  replace hx216_6 := (HB.out.cell (World.block_lt_of_cell? w _ hx216_6)).trans hx216_6
                  have HR216_6 := Aside0.mk hi216_6
                  have HC216_6 := Aside0.mk hl216_6
                  clear hi216_6 hl216_6
                  replace p216 := eq_true p216
                  replace q216 := eq_true q216
                  go_wp2
                  go_meet
                  case rel => exact ⟨_, (false), (by first | rfl | (simp; done) | (simp [*]; done)), H', ⟨by have := HJ1.out; have := HJ10.out; have := HK3.out; have := HJ17.out; have := HK5.out; first | omega | exact Nat.le_refl _⟩, ⟨bkx⟩, ⟨blx⟩⟩
                ·rw [if_neg c28] at H
                 exact absurd H (by simp)
               ·rw [if_neg c27] at H
                exact absurd H (by simp)
              case rest =>
               clear HC26
               try clear c1
               try clear c2
               try clear p2
               try clear q2
               try clear hx2
               try clear c5
               try clear c5b0
               try clear c6
               try clear c6b0
               try clear p6
               try clear c7
               try clear c7b0
               try clear c12
               try clear c12b0
               try clear c13
               try clear c13b0
               try clear c14
               try clear c14b0
               try clear c19
               try clear c19b0
               try clear c21
               try clear p21
               try clear q21
               try clear hx21
               try clear c22
               try clear c23
               try clear c23b0
               try clear c24
               try clear c24b0
               try clear c27
               try clear c27b0
               try clear c28
               try clear c28b0
               try clear c29
               try clear c29b0
               try clear hcz10_0
               try clear hcz10_1
               try clear hcz10_2
               try clear hcz10_3
               try clear hcz10_4
               try clear hcz10_5
               try clear hcz10_6
               try clear hcz15_0
               try clear hcz15_1
               try clear hcz15_2
               try clear hcz15_3
               try clear hcz15_4
               try clear hcz15_5
               try clear hcz15_6
               try clear hcz16_0
               try clear hcz16_1
               try clear hcz16_2
               try clear hcz16_3
               try clear hcz16_4
               try clear hcz16_5
               try clear hcz16_6
               try clear hcz17_0
               try clear hcz17_1
               try clear hcz17_2
               try clear hcz17_3
               try clear hcz17_4
               try clear hcz17_5
               try clear hcz17_6
               try clear hcz20_0
               try clear hcz20_1
               try clear hcz20_2
               try clear hcz20_3
               try clear hcz20_4
               try clear hcz20_5
               try clear hcz20_6
               try clear hcz21_0
               try clear hcz21_1
               try clear hcz21_2
               try clear hcz21_3
               try clear hcz21_4
               try clear hcz21_5
               try clear hcz21_6
               try clear hcz25_0
               try clear hcz25_1
               try clear hcz25_2
               try clear hcz25_3
               try clear hcz25_4
               try clear hcz25_5
               try clear hcz25_6
               try clear hcz30_0
               try clear hcz30_1
               try clear hcz30_2
               try clear hcz30_3
               try clear hcz30_4
               try clear hcz30_5
               try clear hcz30_6
               try clear hcz31_0
               try clear hcz31_1
               try clear hcz31_2
               try clear hcz31_3
               try clear hcz31_4
               try clear hcz31_5
               try clear hcz31_6
               try clear hcz4_0
               try clear hcz4_1
               try clear hcz4_2
               try clear hcz4_3
               try clear hcz4_4
               try clear hcz4_5
               try clear hcz4_6
               try clear hcz8_0
               try clear hcz8_1
               try clear hcz8_2
               try clear hcz8_3
               try clear hcz8_4
               try clear hcz8_5
               try clear hcz8_6
               try clear hcz9_0
               try clear hcz9_1
               try clear hcz9_2
               try clear hcz9_3
               try clear hcz9_4
               try clear hcz9_5
               try clear hcz9_6
               try clear hfz10_0
               try clear hfz10_1
               try clear hfz10_2
               try clear hfz10_3
               try clear hfz10_4
               try clear hfz10_5
               try clear hfz10_6
               try clear hfz15_0
               try clear hfz15_1
               try clear hfz15_2
               try clear hfz15_3
               try clear hfz15_4
               try clear hfz15_5
               try clear hfz15_6
               try clear hfz16_0
               try clear hfz16_1
               try clear hfz16_2
               try clear hfz16_3
               try clear hfz16_4
               try clear hfz16_5
               try clear hfz16_6
               try clear hfz17_0
               try clear hfz17_1
               try clear hfz17_2
               try clear hfz17_3
               try clear hfz17_4
               try clear hfz17_5
               try clear hfz17_6
               try clear hfz20_0
               try clear hfz20_1
               try clear hfz20_2
               try clear hfz20_3
               try clear hfz20_4
               try clear hfz20_5
               try clear hfz20_6
               try clear hfz21_0
               try clear hfz21_1
               try clear hfz21_2
               try clear hfz21_3
               try clear hfz21_4
               try clear hfz21_5
               try clear hfz21_6
               try clear hfz25_0
               try clear hfz25_1
               try clear hfz25_2
               try clear hfz25_3
               try clear hfz25_4
               try clear hfz25_5
               try clear hfz25_6
               try clear hfz30_0
               try clear hfz30_1
               try clear hfz30_2
               try clear hfz30_3
               try clear hfz30_4
               try clear hfz30_5
               try clear hfz30_6
               try clear hfz31_0
               try clear hfz31_1
               try clear hfz31_2
               try clear hfz31_3
               try clear hfz31_4
               try clear hfz31_5
               try clear hfz31_6
               try clear hfz4_0
               try clear hfz4_1
               try clear hfz4_2
               try clear hfz4_3
               try clear hfz4_4
               try clear hfz4_5
               try clear hfz4_6
               try clear hfz8_0
               try clear hfz8_1
               try clear hfz8_2
               try clear hfz8_3
               try clear hfz8_4
               try clear hfz8_5
               try clear hfz8_6
               try clear hfz9_0
               try clear hfz9_1
               try clear hfz9_2
               try clear hfz9_3
               try clear hfz9_4
               try clear hfz9_5
               try clear hfz9_6
               try clear hx213_0
               try clear hx213_1
               try clear hx214_0
               try clear hx214_1
               try clear hx215_0
               try clear hx215_1
               try clear hx215_2
               try clear hx215_3
               try clear hx215_4
               try clear hx215_5
               try clear hx215_6
               try clear hx216_0
               try clear hx216_1
               try clear hx216_2
               try clear hx216_3
               try clear hx216_4
               try clear hx216_5
               try clear hx216_6
               try clear p2
               try clear p21
               try clear p213
               try clear p214
               try clear p215
               try clear p216
               try clear p6
               try clear q2
               try clear q21
               try clear q213
               try clear q214
               try clear q215
               try clear q216
               obtain ⟨kq, x104_25, rfl, HA, HJ25, BK212, HB⟩ := hcut
               cases kq with
               | zero => exact absurd HA.out (by simp [levylaw7_small.j7])
               | succ kj25 =>
                have H := HA.out
                clear HA
                simp only [levylaw7_small.j7] at H
                by_cases c32 : x104_25 = true
                ·subst c32
                 have H1 : (if 0 ≤ x6_3 then (if x6_3 < (l0_5.length : Int) then (if 0 ≤ x7_5 then (if x7_5 < (((rd_T77 l0_5 x6_3).f6).length : Int) then ((levylaw7_nodes.f kj25 ((rd_T100 ((rd_T77 l0_5 x6_3).f6) x7_5).f2.f0) ((rd_T100 ((rd_T77 l0_5 x6_3).f6) x7_5).f2.f1) ((rd_T100 ((rd_T77 l0_5 x6_3).f6) x7_5).f2.f2) ((rd_T100 ((rd_T77 l0_5 x6_3).f6) x7_5).f2.f3) ((rd_T100 ((rd_T77 l0_5 x6_3).f6) x7_5).f2.f4) 32768).bind fun t219 => ((levylaw7_nodes.f kj25 ((rd_T100 ((rd_T77 l0_5 x6_3).f6) x7_5).f3.f0) ((rd_T100 ((rd_T77 l0_5 x6_3).f6) x7_5).f3.f1) ((rd_T100 ((rd_T77 l0_5 x6_3).f6) x7_5).f3.f2) ((rd_T100 ((rd_T77 l0_5 x6_3).f6) x7_5).f3.f3) ((rd_T100 ((rd_T77 l0_5 x6_3).f6) x7_5).f3.f4) 32768).bind fun t222 => (levylaw7_small.l3 kj25 (wrap64 ((wrap64 (x3_5 + t219)) + t222)) x6_3 (wrap64 (x7_5 + 1)) a0_0 a0_1 l0_2 l0_3 l0_4 l0_5 l0_6))) else (none)) else (none)) else (none)) else (none)) = some r := by rw [if_pos rfl] at H; exact H
                 clear H
                 have H := H1
                 clear H1
                 by_cases c33 : 0 ≤ x6_3
                 ·rw [if_pos c33] at H
                  have c33b0 : decide (0 ≤ x6_3) = true := decide_eq_true c33
                  clear c33
                  by_cases c34 : x6_3 < (l0_5.length : Int)
                  ·rw [if_pos c34] at H
                   have c34b0 : decide (x6_3 < (l0_5.length : Int)) = true := decide_eq_true c34
                   clear c34
                   by_cases c35 : 0 ≤ x7_5
                   ·rw [if_pos c35] at H
                    have c35b0 : decide (0 ≤ x7_5) = true := decide_eq_true c35
                    clear c35
                    by_cases c36 : x7_5 < (((rd_T77 l0_5 x6_3).f6).length : Int)
                    ·rw [if_pos c36] at H
                     have c36b0 : decide (x7_5 < (((rd_T77 l0_5 x6_3).f6).length : Int)) = true := decide_eq_true c36
                     clear c36
                     replace H := Option.bind_eq_some_iff.mp H
                     obtain ⟨t219, A370, H⟩ := H
                     replace H : ((levylaw7_nodes.f kj25 ((rd_T100 ((rd_T77 l0_5 x6_3).f6) x7_5).f3.f0) ((rd_T100 ((rd_T77 l0_5 x6_3).f6) x7_5).f3.f1) ((rd_T100 ((rd_T77 l0_5 x6_3).f6) x7_5).f3.f2) ((rd_T100 ((rd_T77 l0_5 x6_3).f6) x7_5).f3.f3) ((rd_T100 ((rd_T77 l0_5 x6_3).f6) x7_5).f3.f4) 32768).bind fun t222 => (levylaw7_small.l3 kj25 (wrap64 ((wrap64 (x3_5 + t219)) + t222)) x6_3 (wrap64 (x7_5 + 1)) a0_0 a0_1 l0_2 l0_3 l0_4 l0_5 l0_6)) = some r := H
                     have A37 := Aside0.mk A370
                     clear A370
                     replace H := Option.bind_eq_some_iff.mp H
                     obtain ⟨t222, A380, H⟩ := H
                     replace H : (levylaw7_small.l3 kj25 (wrap64 ((wrap64 (x3_5 + t219)) + t222)) x6_3 (wrap64 (x7_5 + 1)) a0_0 a0_1 l0_2 l0_3 l0_4 l0_5 l0_6) = some r := H
                     have A38 := Aside0.mk A380
                     clear A380
                     have H' := Aside0.mk H
                     clear H
                     try go_wp2
                     have n0_ := Aside0.mk (blk_drew BK212.out)
                     have n1_ := Aside0.mk (below_drew1 HB.out)
                     clear BK212
                     clear HB
                     have BK212 := n0_
                     have HB := n1_
                     clear n0_ n1_
                     have p217 : 0 ≤ (x6_3 : Int) := odx
                     have q217 : x6_3 < (l0_5.length : Int) := odx
                     obtain ⟨ad217, A217_6, c217_6, e217, hx217_0, hx217_1, hx217_2, hx217_3, hx217_4, hx217_5, hx217_6, hl217_6, hi217_6⟩ := at_T77 HR0_5.out x6_3 p217 q217
                     have hw217_6 := hx217_6
                     have hw217_5 := hx217_5
                     have hw217_4 := hx217_4
                     have hw217_3 := hx217_3
                     have hw217_2 := hx217_2
                     have hw217_1 := hx217_1
                     have hw217_0 := hx217_0
                     obtain rfl : ad215 = ad217 := (by injection e217)
                     replace hx217_0 := (HB.out.cell (World.block_lt_of_cell? w _ hx217_0)).trans hx217_0
                     replace hx217_1 := (HB.out.cell (World.block_lt_of_cell? w _ hx217_1)).trans hx217_1
                     replace hx217_2 := (HB.out.cell (World.block_lt_of_cell? w _ hx217_2)).trans hx217_2
                     replace hx217_3 := (HB.out.cell (World.block_lt_of_cell? w _ hx217_3)).trans hx217_3
                     replace hx217_4 := (HB.out.cell (World.block_lt_of_cell? w _ hx217_4)).trans hx217_4
                     replace hx217_5 := (HB.out.cell (World.block_lt_of_cell? w _ hx217_5)).trans hx217_5
                     replace hx217_6 := (HB.out.cell (World.block_lt_of_cell? w _ hx217_6)).trans hx217_6
                     have HR217_6 := Aside0.mk hi217_6
                     have HC217_6 := Aside0.mk hl217_6
                     clear hi217_6 hl217_6
                     replace p217 := eq_true p217
                     replace q217 := eq_true q217
                     have p218 : 0 ≤ (x7_5 : Int) := odx
                     have q218 : x7_5 < (((rd_T77 l0_5 x6_3).f6).length : Int) := odx
                     obtain ⟨ad218, A218_6, c218_6, A218_11, c218_11, e218, hx218_0, hx218_1, hx218_2, hx218_3, hx218_4, hx218_5, hx218_6, hx218_7, hx218_8, hx218_9, hx218_10, hx218_11, hl218_6, hi218_6, hl218_11, hi218_11⟩ := at_T100 HR217_6.out x7_5 p218 q218
                     have hw218_11 := hx218_11
                     have hw218_10 := hx218_10
                     have hw218_9 := hx218_9
                     have hw218_8 := hx218_8
                     have hw218_7 := hx218_7
                     have hw218_6 := hx218_6
                     have hw218_5 := hx218_5
                     have hw218_4 := hx218_4
                     have hw218_3 := hx218_3
                     have hw218_2 := hx218_2
                     have hw218_1 := hx218_1
                     have hw218_0 := hx218_0
                     cases e218
                     replace hx218_0 := (HB.out.cell (World.block_lt_of_cell? w _ hx218_0)).trans hx218_0
                     replace hx218_1 := (HB.out.cell (World.block_lt_of_cell? w _ hx218_1)).trans hx218_1
                     replace hx218_2 := (HB.out.cell (World.block_lt_of_cell? w _ hx218_2)).trans hx218_2
                     replace hx218_3 := (HB.out.cell (World.block_lt_of_cell? w _ hx218_3)).trans hx218_3
                     replace hx218_4 := (HB.out.cell (World.block_lt_of_cell? w _ hx218_4)).trans hx218_4
                     replace hx218_5 := (HB.out.cell (World.block_lt_of_cell? w _ hx218_5)).trans hx218_5
                     replace hx218_6 := (HB.out.cell (World.block_lt_of_cell? w _ hx218_6)).trans hx218_6
                     replace hx218_7 := (HB.out.cell (World.block_lt_of_cell? w _ hx218_7)).trans hx218_7
                     replace hx218_8 := (HB.out.cell (World.block_lt_of_cell? w _ hx218_8)).trans hx218_8
                     replace hx218_9 := (HB.out.cell (World.block_lt_of_cell? w _ hx218_9)).trans hx218_9
                     replace hx218_10 := (HB.out.cell (World.block_lt_of_cell? w _ hx218_10)).trans hx218_10
                     replace hx218_11 := (HB.out.cell (World.block_lt_of_cell? w _ hx218_11)).trans hx218_11
                     have HR218_6 := Aside0.mk hi218_6
                     have HC218_6 := Aside0.mk hl218_6
                     clear hi218_6 hl218_6
                     have HR218_11 := Aside0.mk hi218_11
                     have HC218_11 := Aside0.mk hl218_11
                     clear hi218_11 hl218_11
                     replace p218 := eq_true p218
                     replace q218 := eq_true q218
                     have p220 : 0 ≤ (x6_3 : Int) := odx
                     have q220 : x6_3 < (l0_5.length : Int) := odx
                     obtain ⟨ad220, A220_6, c220_6, e220, hx220_0, hx220_1, hx220_2, hx220_3, hx220_4, hx220_5, hx220_6, hl220_6, hi220_6⟩ := at_T77 HR0_5.out x6_3 p220 q220
                     have hw220_6 := hx220_6
                     have hw220_5 := hx220_5
                     have hw220_4 := hx220_4
                     have hw220_3 := hx220_3
                     have hw220_2 := hx220_2
                     have hw220_1 := hx220_1
                     have hw220_0 := hx220_0
                     obtain rfl : ad215 = ad220 := (by injection e220)
                     replace hx220_0 := (HB.out.cell (World.block_lt_of_cell? w _ hx220_0)).trans hx220_0
                     replace hx220_1 := (HB.out.cell (World.block_lt_of_cell? w _ hx220_1)).trans hx220_1
                     replace hx220_2 := (HB.out.cell (World.block_lt_of_cell? w _ hx220_2)).trans hx220_2
                     replace hx220_3 := (HB.out.cell (World.block_lt_of_cell? w _ hx220_3)).trans hx220_3
                     replace hx220_4 := (HB.out.cell (World.block_lt_of_cell? w _ hx220_4)).trans hx220_4
                     replace hx220_5 := (HB.out.cell (World.block_lt_of_cell? w _ hx220_5)).trans hx220_5
                     replace hx220_6 := (HB.out.cell (World.block_lt_of_cell? w _ hx220_6)).trans hx220_6
                     have HR220_6 := Aside0.mk hi220_6
                     have HC220_6 := Aside0.mk hl220_6
                     clear hi220_6 hl220_6
                     replace p220 := eq_true p220
                     replace q220 := eq_true q220
                     have ea_ := Option.some.inj (hx217_6.symm.trans hx220_6)
                     injection ea_ with ea_ en_ ec_
                     subst ea_
                     subst ec_
                     clear en_
                     have p221 : 0 ≤ (x7_5 : Int) := odx
                     have q221 : x7_5 < (((rd_T77 l0_5 x6_3).f6).length : Int) := odx
                     obtain ⟨ad221, A221_6, c221_6, A221_11, c221_11, e221, hx221_0, hx221_1, hx221_2, hx221_3, hx221_4, hx221_5, hx221_6, hx221_7, hx221_8, hx221_9, hx221_10, hx221_11, hl221_6, hi221_6, hl221_11, hi221_11⟩ := at_T100 HR220_6.out x7_5 p221 q221
                     have hw221_11 := hx221_11
                     have hw221_10 := hx221_10
                     have hw221_9 := hx221_9
                     have hw221_8 := hx221_8
                     have hw221_7 := hx221_7
                     have hw221_6 := hx221_6
                     have hw221_5 := hx221_5
                     have hw221_4 := hx221_4
                     have hw221_3 := hx221_3
                     have hw221_2 := hx221_2
                     have hw221_1 := hx221_1
                     have hw221_0 := hx221_0
                     cases e221
                     have ea_ := Option.some.inj (hw218_6.symm.trans hw221_6)
                     injection ea_ with ea_ en_ ec_
                     subst ea_
                     subst ec_
                     clear en_
                     have ea_ := Option.some.inj (hw218_11.symm.trans hw221_11)
                     injection ea_ with ea_ en_ ec_
                     subst ea_
                     subst ec_
                     clear en_
                     replace hx221_0 := (HB.out.cell (World.block_lt_of_cell? w _ hx221_0)).trans hx221_0
                     replace hx221_1 := (HB.out.cell (World.block_lt_of_cell? w _ hx221_1)).trans hx221_1
                     replace hx221_2 := (HB.out.cell (World.block_lt_of_cell? w _ hx221_2)).trans hx221_2
                     replace hx221_3 := (HB.out.cell (World.block_lt_of_cell? w _ hx221_3)).trans hx221_3
                     replace hx221_4 := (HB.out.cell (World.block_lt_of_cell? w _ hx221_4)).trans hx221_4
                     replace hx221_5 := (HB.out.cell (World.block_lt_of_cell? w _ hx221_5)).trans hx221_5
                     replace hx221_6 := (HB.out.cell (World.block_lt_of_cell? w _ hx221_6)).trans hx221_6
                     replace hx221_7 := (HB.out.cell (World.block_lt_of_cell? w _ hx221_7)).trans hx221_7
                     replace hx221_8 := (HB.out.cell (World.block_lt_of_cell? w _ hx221_8)).trans hx221_8
                     replace hx221_9 := (HB.out.cell (World.block_lt_of_cell? w _ hx221_9)).trans hx221_9
                     replace hx221_10 := (HB.out.cell (World.block_lt_of_cell? w _ hx221_10)).trans hx221_10
                     replace hx221_11 := (HB.out.cell (World.block_lt_of_cell? w _ hx221_11)).trans hx221_11
                     have HR221_6 := Aside0.mk hi221_6
                     have HC221_6 := Aside0.mk hl221_6
                     clear hi221_6 hl221_6
                     have HR221_11 := Aside0.mk hi221_11
                     have HC221_11 := Aside0.mk hl221_11
                     clear hi221_11 hl221_11
                     replace p221 := eq_true p221
                     replace q221 := eq_true q221
                     refine start_ (n := 26) (S := fun w' => w'.cell? ⟨gb212, 0, none⟩ = some (.string a0_0) ∧ w'.cell? ⟨gb212, 1, none⟩ = some (.int .i64 a0_1) ∧ w'.cell? ⟨gb212, 2, none⟩ = some (.slice A0_2 l0_2.length c0_2) ∧ w'.cell? ⟨gb212, 3, none⟩ = some (.slice A0_3 l0_3.length c0_3) ∧ w'.cell? ⟨gb212, 4, none⟩ = some (.slice A0_4 l0_4.length c0_4) ∧ w'.cell? ⟨gb212, 5, none⟩ = some (.slice (some ad215) l0_5.length c0_5) ∧ w'.cell? ⟨gb212, 6, none⟩ = some (.slice A0_6 l0_6.length c0_6) ∧ w'.cell? (ad215.add ((x6_3).toNat * 7)) = some (.string ((rd_T77 l0_5 x6_3).f0)) ∧ w'.cell? ⟨(ad215.add ((x6_3).toNat * 7)).block, (ad215.add ((x6_3).toNat * 7)).off + 1, none⟩ = some (.bool ((rd_T77 l0_5 x6_3).f1)) ∧ w'.cell? ⟨(ad215.add ((x6_3).toNat * 7)).block, (ad215.add ((x6_3).toNat * 7)).off + 2, none⟩ = some (.bool ((rd_T77 l0_5 x6_3).f2)) ∧ w'.cell? ⟨(ad215.add ((x6_3).toNat * 7)).block, (ad215.add ((x6_3).toNat * 7)).off + 3, none⟩ = some (.int .i64 ((rd_T77 l0_5 x6_3).f3)) ∧ w'.cell? ⟨(ad215.add ((x6_3).toNat * 7)).block, (ad215.add ((x6_3).toNat * 7)).off + 4, none⟩ = some (.int .i64 ((rd_T77 l0_5 x6_3).f4)) ∧ w'.cell? ⟨(ad215.add ((x6_3).toNat * 7)).block, (ad215.add ((x6_3).toNat * 7)).off + 5, none⟩ = some (.int .i64 ((rd_T77 l0_5 x6_3).f5)) ∧ w'.cell? ⟨(ad215.add ((x6_3).toNat * 7)).block, (ad215.add ((x6_3).toNat * 7)).off + 6, none⟩ = some (.slice (some ad218) ((rd_T77 l0_5 x6_3).f6).length c217_6) ∧ w'.cell? (ad218.add ((x7_5).toNat * 12)) = some (.int .i64 ((rd_T100 ((rd_T77 l0_5 x6_3).f6) x7_5).f0)) ∧ w'.cell? ⟨(ad218.add ((x7_5).toNat * 12)).block, (ad218.add ((x7_5).toNat * 12)).off + 1, none⟩ = some (.bool ((rd_T100 ((rd_T77 l0_5 x6_3).f6) x7_5).f1)) ∧ w'.cell? ⟨(ad218.add ((x7_5).toNat * 12)).block, (ad218.add ((x7_5).toNat * 12)).off + 2, none⟩ = some (.int .i64 ((rd_T100 ((rd_T77 l0_5 x6_3).f6) x7_5).f2.f0)) ∧ w'.cell? ⟨(ad218.add ((x7_5).toNat * 12)).block, (ad218.add ((x7_5).toNat * 12)).off + 3, none⟩ = some (.int .i64 ((rd_T100 ((rd_T77 l0_5 x6_3).f6) x7_5).f2.f1)) ∧ w'.cell? ⟨(ad218.add ((x7_5).toNat * 12)).block, (ad218.add ((x7_5).toNat * 12)).off + 4, none⟩ = some (.int .i64 ((rd_T100 ((rd_T77 l0_5 x6_3).f6) x7_5).f2.f2)) ∧ w'.cell? ⟨(ad218.add ((x7_5).toNat * 12)).block, (ad218.add ((x7_5).toNat * 12)).off + 5, none⟩ = some (.int .i64 ((rd_T100 ((rd_T77 l0_5 x6_3).f6) x7_5).f2.f3)) ∧ w'.cell? ⟨(ad218.add ((x7_5).toNat * 12)).block, (ad218.add ((x7_5).toNat * 12)).off + 6, none⟩ = some (.slice A218_6 ((rd_T100 ((rd_T77 l0_5 x6_3).f6) x7_5).f2.f4).length c218_6) ∧ w'.cell? ⟨(ad218.add ((x7_5).toNat * 12)).block, (ad218.add ((x7_5).toNat * 12)).off + 7, none⟩ = some (.int .i64 ((rd_T100 ((rd_T77 l0_5 x6_3).f6) x7_5).f3.f0)) ∧ w'.cell? ⟨(ad218.add ((x7_5).toNat * 12)).block, (ad218.add ((x7_5).toNat * 12)).off + 8, none⟩ = some (.int .i64 ((rd_T100 ((rd_T77 l0_5 x6_3).f6) x7_5).f3.f1)) ∧ w'.cell? ⟨(ad218.add ((x7_5).toNat * 12)).block, (ad218.add ((x7_5).toNat * 12)).off + 9, none⟩ = some (.int .i64 ((rd_T100 ((rd_T77 l0_5 x6_3).f6) x7_5).f3.f2)) ∧ w'.cell? ⟨(ad218.add ((x7_5).toNat * 12)).block, (ad218.add ((x7_5).toNat * 12)).off + 10, none⟩ = some (.int .i64 ((rd_T100 ((rd_T77 l0_5 x6_3).f6) x7_5).f3.f3)) ∧ w'.cell? ⟨(ad218.add ((x7_5).toNat * 12)).block, (ad218.add ((x7_5).toNat * 12)).off + 11, none⟩ = some (.slice A218_11 ((rd_T100 ((rd_T77 l0_5 x6_3).f6) x7_5).f3.f4).length c218_11) ∧ w'.cell? (ad215.add ((x6_3).toNat * 7)) = some (.string ((rd_T77 l0_5 x6_3).f0)) ∧ w'.cell? ⟨(ad215.add ((x6_3).toNat * 7)).block, (ad215.add ((x6_3).toNat * 7)).off + 1, none⟩ = some (.bool ((rd_T77 l0_5 x6_3).f1)) ∧ w'.cell? ⟨(ad215.add ((x6_3).toNat * 7)).block, (ad215.add ((x6_3).toNat * 7)).off + 2, none⟩ = some (.bool ((rd_T77 l0_5 x6_3).f2)) ∧ w'.cell? ⟨(ad215.add ((x6_3).toNat * 7)).block, (ad215.add ((x6_3).toNat * 7)).off + 3, none⟩ = some (.int .i64 ((rd_T77 l0_5 x6_3).f3)) ∧ w'.cell? ⟨(ad215.add ((x6_3).toNat * 7)).block, (ad215.add ((x6_3).toNat * 7)).off + 4, none⟩ = some (.int .i64 ((rd_T77 l0_5 x6_3).f4)) ∧ w'.cell? ⟨(ad215.add ((x6_3).toNat * 7)).block, (ad215.add ((x6_3).toNat * 7)).off + 5, none⟩ = some (.int .i64 ((rd_T77 l0_5 x6_3).f5)) ∧ w'.cell? ⟨(ad215.add ((x6_3).toNat * 7)).block, (ad215.add ((x6_3).toNat * 7)).off + 6, none⟩ = some (.slice (some ad218) ((rd_T77 l0_5 x6_3).f6).length c217_6) ∧ w'.cell? (ad218.add ((x7_5).toNat * 12)) = some (.int .i64 ((rd_T100 ((rd_T77 l0_5 x6_3).f6) x7_5).f0)) ∧ w'.cell? ⟨(ad218.add ((x7_5).toNat * 12)).block, (ad218.add ((x7_5).toNat * 12)).off + 1, none⟩ = some (.bool ((rd_T100 ((rd_T77 l0_5 x6_3).f6) x7_5).f1)) ∧ w'.cell? ⟨(ad218.add ((x7_5).toNat * 12)).block, (ad218.add ((x7_5).toNat * 12)).off + 2, none⟩ = some (.int .i64 ((rd_T100 ((rd_T77 l0_5 x6_3).f6) x7_5).f2.f0)) ∧ w'.cell? ⟨(ad218.add ((x7_5).toNat * 12)).block, (ad218.add ((x7_5).toNat * 12)).off + 3, none⟩ = some (.int .i64 ((rd_T100 ((rd_T77 l0_5 x6_3).f6) x7_5).f2.f1)) ∧ w'.cell? ⟨(ad218.add ((x7_5).toNat * 12)).block, (ad218.add ((x7_5).toNat * 12)).off + 4, none⟩ = some (.int .i64 ((rd_T100 ((rd_T77 l0_5 x6_3).f6) x7_5).f2.f2)) ∧ w'.cell? ⟨(ad218.add ((x7_5).toNat * 12)).block, (ad218.add ((x7_5).toNat * 12)).off + 5, none⟩ = some (.int .i64 ((rd_T100 ((rd_T77 l0_5 x6_3).f6) x7_5).f2.f3)) ∧ w'.cell? ⟨(ad218.add ((x7_5).toNat * 12)).block, (ad218.add ((x7_5).toNat * 12)).off + 6, none⟩ = some (.slice A218_6 ((rd_T100 ((rd_T77 l0_5 x6_3).f6) x7_5).f2.f4).length c218_6) ∧ w'.cell? ⟨(ad218.add ((x7_5).toNat * 12)).block, (ad218.add ((x7_5).toNat * 12)).off + 7, none⟩ = some (.int .i64 ((rd_T100 ((rd_T77 l0_5 x6_3).f6) x7_5).f3.f0)) ∧ w'.cell? ⟨(ad218.add ((x7_5).toNat * 12)).block, (ad218.add ((x7_5).toNat * 12)).off + 8, none⟩ = some (.int .i64 ((rd_T100 ((rd_T77 l0_5 x6_3).f6) x7_5).f3.f1)) ∧ w'.cell? ⟨(ad218.add ((x7_5).toNat * 12)).block, (ad218.add ((x7_5).toNat * 12)).off + 9, none⟩ = some (.int .i64 ((rd_T100 ((rd_T77 l0_5 x6_3).f6) x7_5).f3.f2)) ∧ w'.cell? ⟨(ad218.add ((x7_5).toNat * 12)).block, (ad218.add ((x7_5).toNat * 12)).off + 10, none⟩ = some (.int .i64 ((rd_T100 ((rd_T77 l0_5 x6_3).f6) x7_5).f3.f3)) ∧ w'.cell? ⟨(ad218.add ((x7_5).toNat * 12)).block, (ad218.add ((x7_5).toNat * 12)).off + 11, none⟩ = some (.slice A218_11 ((rd_T100 ((rd_T77 l0_5 x6_3).f6) x7_5).f3.f4).length c218_11)) (ds := []) #[false, false, false, false, false, false, false, false, false, false, false, false, false, false, false, false, false, false, false, false, false, false, false, false, false, false] (by kernel_rfl) rfl rfl ⟨(blk_cell BK212.out 0).trans rfl, (blk_cell BK212.out 1).trans rfl, (blk_cell BK212.out 2).trans rfl, (blk_cell BK212.out 3).trans rfl, (blk_cell BK212.out 4).trans rfl, (blk_cell BK212.out 5).trans rfl, (blk_cell BK212.out 6).trans rfl, ((HB.out.cell (World.block_lt_of_cell? w _ hw217_0)).trans hw217_0), ((HB.out.cell (World.block_lt_of_cell? w _ hw217_1)).trans hw217_1), ((HB.out.cell (World.block_lt_of_cell? w _ hw217_2)).trans hw217_2), ((HB.out.cell (World.block_lt_of_cell? w _ hw217_3)).trans hw217_3), ((HB.out.cell (World.block_lt_of_cell? w _ hw217_4)).trans hw217_4), ((HB.out.cell (World.block_lt_of_cell? w _ hw217_5)).trans hw217_5), ((HB.out.cell (World.block_lt_of_cell? w _ hw217_6)).trans hw217_6), ((HB.out.cell (World.block_lt_of_cell? w _ hw218_0)).trans hw218_0), ((HB.out.cell (World.block_lt_of_cell? w _ hw218_1)).trans hw218_1), ((HB.out.cell (World.block_lt_of_cell? w _ hw218_2)).trans hw218_2), ((HB.out.cell (World.block_lt_of_cell? w _ hw218_3)).trans hw218_3), ((HB.out.cell (World.block_lt_of_cell? w _ hw218_4)).trans hw218_4), ((HB.out.cell (World.block_lt_of_cell? w _ hw218_5)).trans hw218_5), ((HB.out.cell (World.block_lt_of_cell? w _ hw218_6)).trans hw218_6), ((HB.out.cell (World.block_lt_of_cell? w _ hw218_7)).trans hw218_7), ((HB.out.cell (World.block_lt_of_cell? w _ hw218_8)).trans hw218_8), ((HB.out.cell (World.block_lt_of_cell? w _ hw218_9)).trans hw218_9), ((HB.out.cell (World.block_lt_of_cell? w _ hw218_10)).trans hw218_10), ((HB.out.cell (World.block_lt_of_cell? w _ hw218_11)).trans hw218_11), ((HB.out.cell (World.block_lt_of_cell? w _ hw220_0)).trans hw220_0), ((HB.out.cell (World.block_lt_of_cell? w _ hw220_1)).trans hw220_1), ((HB.out.cell (World.block_lt_of_cell? w _ hw220_2)).trans hw220_2), ((HB.out.cell (World.block_lt_of_cell? w _ hw220_3)).trans hw220_3), ((HB.out.cell (World.block_lt_of_cell? w _ hw220_4)).trans hw220_4), ((HB.out.cell (World.block_lt_of_cell? w _ hw220_5)).trans hw220_5), ((HB.out.cell (World.block_lt_of_cell? w _ hw220_6)).trans hw220_6), ((HB.out.cell (World.block_lt_of_cell? w _ hw221_0)).trans hw221_0), ((HB.out.cell (World.block_lt_of_cell? w _ hw221_1)).trans hw221_1), ((HB.out.cell (World.block_lt_of_cell? w _ hw221_2)).trans hw221_2), ((HB.out.cell (World.block_lt_of_cell? w _ hw221_3)).trans hw221_3), ((HB.out.cell (World.block_lt_of_cell? w _ hw221_4)).trans hw221_4), ((HB.out.cell (World.block_lt_of_cell? w _ hw221_5)).trans hw221_5), ((HB.out.cell (World.block_lt_of_cell? w _ hw221_6)).trans hw221_6), ((HB.out.cell (World.block_lt_of_cell? w _ hw221_7)).trans hw221_7), ((HB.out.cell (World.block_lt_of_cell? w _ hw221_8)).trans hw221_8), ((HB.out.cell (World.block_lt_of_cell? w _ hw221_9)).trans hw221_9), ((HB.out.cell (World.block_lt_of_cell? w _ hw221_10)).trans hw221_10), ((HB.out.cell (World.block_lt_of_cell? w _ hw221_11)).trans hw221_11)⟩ (fun hHeld => ?_); refine with_tabW levylaw7_small.tab17 levylaw7_small.bits17 (fun HT_ HW_ => ?_)
                     generalize wc.drew = w39 at BK212 HB HR217_6 HR218_11 HR218_6 HR220_6 HR221_11 HR221_6 hx217_0 hx217_1 hx217_2 hx217_3 hx217_4 hx217_5 hx217_6 hx218_0 hx218_1 hx218_10 hx218_11 hx218_2 hx218_3 hx218_4 hx218_5 hx218_6 hx218_7 hx218_8 hx218_9 hx220_0 hx220_1 hx220_2 hx220_3 hx220_4 hx220_5 hx220_6 hx221_0 hx221_1 hx221_10 hx221_11 hx221_2 hx221_3 hx221_4 hx221_5 hx221_6 hx221_7 hx221_8 hx221_9 hHeld ⊢
                     refine pure_ (i := 0) (N := some 107) (v := ?_) (a' := ?_) #[true, false, false, false, false, false, false, false, false, false, false, false, false, false, false, false, false, false, false, false, false, false, false, false, false, false] rfl rfl (any_of HT_.out (by kernel_rfl)) (fun _ _ _ h => h) (Or.inl ⟨by rfl, ?_⟩) ?_ ?_
                     rotate_left
                     ·intro w'
                      go_simp
                      with_reducible rfl
                     rotate_left
                     ·simp only [Act.put, List.setIfInBounds_toArray, List.set_cons_zero, List.set_cons_succ, i64_w, i32_w]
                      rfl
                     refine pure_ (i := 1) (N := some 108) (v := ?_) (a' := ?_) #[true, true, false, false, false, false, false, false, false, false, false, false, false, false, false, false, false, false, false, false, false, false, false, false, false, false] rfl rfl (any_of HT_.out (by kernel_rfl)) (fun _ _ _ h => h) (Or.inl ⟨by rfl, ?_⟩) ?_ ?_
                     rotate_left
                     ·intro w'
                      go_simp
                      with_reducible rfl
                     rotate_left
                     ·simp only [Act.put, List.setIfInBounds_toArray, List.set_cons_zero, List.set_cons_succ, i64_w, i32_w]
                      rfl
                     refine pure_ (i := 3) (N := some 110) (v := ?_) (a' := ?_) #[true, true, false, true, false, false, false, false, false, false, false, false, false, false, false, false, false, false, false, false, false, false, false, false, false, false] rfl rfl (any_of HT_.out (by kernel_rfl)) (fun _ _ _ h => h) (Or.inl ⟨by rfl, ?_⟩) ?_ ?_
                     rotate_left
                     ·intro w'
                      go_simp
                      with_reducible rfl
                     rotate_left
                     ·simp only [Act.put, List.setIfInBounds_toArray, List.set_cons_zero, List.set_cons_succ, i64_w, i32_w]
                      rfl
                     refine pure_ (i := 7) (N := some 114) (v := ?_) (a' := ?_) #[true, true, false, true, false, false, false, true, false, false, false, false, false, false, false, false, false, false, false, false, false, false, false, false, false, false] rfl rfl (any_of HT_.out (by kernel_rfl)) (fun _ _ _ h => h) (Or.inl ⟨by rfl, ?_⟩) ?_ ?_
                     rotate_left
                     ·intro w'
                      go_simp
                      with_reducible rfl
                     rotate_left
                     ·simp only [Act.put, List.setIfInBounds_toArray, List.set_cons_zero, List.set_cons_succ, i64_w, i32_w]
                      rfl
                     refine pure_ (i := 13) (N := some 120) (v := ?_) (a' := ?_) #[true, true, false, true, false, false, false, true, false, false, false, false, false, true, false, false, false, false, false, false, false, false, false, false, false, false] rfl rfl (any_of HT_.out (by kernel_rfl)) (fun _ _ _ h => h) (Or.inl ⟨by rfl, ?_⟩) ?_ ?_
                     rotate_left
                     ·intro w'
                      go_simp
                      with_reducible rfl
                     rotate_left
                     ·simp only [Act.put, List.setIfInBounds_toArray, List.set_cons_zero, List.set_cons_succ, i64_w, i32_w]
                      rfl
                     refine pure_ (i := 15) (N := some 122) (v := ?_) (a' := ?_) #[true, true, false, true, false, false, false, true, false, false, false, false, false, true, false, true, false, false, false, false, false, false, false, false, false, false] rfl rfl (any_of HT_.out (by kernel_rfl)) (fun _ _ _ h => h) (Or.inl ⟨by rfl, ?_⟩) ?_ ?_
                     rotate_left
                     ·intro w'
                      go_simp
                      with_reducible rfl
                     rotate_left
                     ·simp only [Act.put, List.setIfInBounds_toArray, List.set_cons_zero, List.set_cons_succ, i64_w, i32_w]
                      rfl
                     refine pure_ (i := 19) (N := some 126) (v := ?_) (a' := ?_) #[true, true, false, true, false, false, false, true, false, false, false, false, false, true, false, true, false, false, false, true, false, false, false, false, false, false] rfl rfl (any_of HT_.out (by kernel_rfl)) (fun _ _ _ h => h) (Or.inl ⟨by rfl, ?_⟩) ?_ ?_
                     rotate_left
                     ·intro w'
                      go_simp
                      with_reducible rfl
                     rotate_left
                     ·simp only [Act.put, List.setIfInBounds_toArray, List.set_cons_zero, List.set_cons_succ, i64_w, i32_w]
                      rfl
                     refine take_ (i := 2) (N := some 109) (v := ?_) (a' := ?_) #[true, true, true, true, false, false, false, true, false, false, false, false, false, true, false, true, false, false, false, true, false, false, false, false, false, false] rfl rfl (take_ofW HT_.out HW_.out (by kernel_rfl)) (fun _ _ _ h => h) (Or.inl ⟨by rfl, ?_⟩) hHeld ?_ ?_
                     rotate_left
                     ·rintro w' ⟨s0, s1, s2, s3, s4, s5, s6, s7, s8, s9, s10, s11, s12, s13, s14, s15, s16, s17, s18, s19, s20, s21, s22, s23, s24, s25, s26, s27, s28, s29, s30, s31, s32, s33, s34, s35, s36, s37, s38, s39, s40, s41, s42, s43, s44⟩
                      go_simp
                      with_reducible rfl
                     rotate_left
                     ·simp only [Act.put, List.setIfInBounds_toArray, List.set_cons_zero, List.set_cons_succ, i64_w, i32_w]
                      rfl
                     refine pure_ (i := 4) (N := some 111) (v := ?_) (a' := ?_) #[true, true, true, true, true, false, false, true, false, false, false, false, false, true, false, true, false, false, false, true, false, false, false, false, false, false] rfl rfl (any_of HT_.out (by kernel_rfl)) (fun _ _ _ h => h) (Or.inl ⟨by rfl, ?_⟩) ?_ ?_
                     rotate_left
                     ·intro w'
                      go_simp
                      with_reducible rfl
                     rotate_left
                     ·simp only [Act.put, List.setIfInBounds_toArray, List.set_cons_zero, List.set_cons_succ, i64_w, i32_w]
                      rfl
                     refine pure_ (i := 5) (N := some 112) (v := ?_) (a' := ?_) #[true, true, true, true, true, true, false, true, false, false, false, false, false, true, false, true, false, false, false, true, false, false, false, false, false, false] rfl rfl (any_of HT_.out (by kernel_rfl)) (fun _ _ _ h => h) (Or.inl ⟨by rfl, ?_⟩) ?_ ?_
                     rotate_left
                     ·intro w'
                      go_simp
                      with_reducible rfl
                     rotate_left
                     ·simp only [Act.put, List.setIfInBounds_toArray, List.set_cons_zero, List.set_cons_succ, i64_w, i32_w]
                      rfl
                     refine take_ (i := 6) (N := some 113) (v := ?_) (a' := ?_) #[true, true, true, true, true, true, true, true, false, false, false, false, false, true, false, true, false, false, false, true, false, false, false, false, false, false] rfl rfl (take_ofW HT_.out HW_.out (by kernel_rfl)) (fun _ _ _ h => h) (Or.inl ⟨by rfl, ?_⟩) hHeld ?_ ?_
                     rotate_left
                     ·rintro w' ⟨s0, s1, s2, s3, s4, s5, s6, s7, s8, s9, s10, s11, s12, s13, s14, s15, s16, s17, s18, s19, s20, s21, s22, s23, s24, s25, s26, s27, s28, s29, s30, s31, s32, s33, s34, s35, s36, s37, s38, s39, s40, s41, s42, s43, s44⟩
                      go_simp
                      with_reducible rfl
                     rotate_left
                     ·simp only [Act.put, List.setIfInBounds_toArray, List.set_cons_zero, List.set_cons_succ, i64_w, i32_w]
                      rfl
                     refine pure_ (i := 8) (N := some 115) (v := ?_) (a' := ?_) #[true, true, true, true, true, true, true, true, true, false, false, false, false, true, false, true, false, false, false, true, false, false, false, false, false, false] rfl rfl (any_of HT_.out (by kernel_rfl)) (fun _ _ _ h => h) (Or.inl ⟨by rfl, ?_⟩) ?_ ?_
                     rotate_left
                     ·intro w'
                      go_simp
                      with_reducible rfl
                     rotate_left
                     ·simp only [Act.put, List.setIfInBounds_toArray, List.set_cons_zero, List.set_cons_succ, i64_w, i32_w]
                      rfl
                     refine pure_ (i := 9) (N := some 116) (v := ?_) (a' := ?_) #[true, true, true, true, true, true, true, true, true, true, false, false, false, true, false, true, false, false, false, true, false, false, false, false, false, false] rfl rfl (any_of HT_.out (by kernel_rfl)) (fun _ _ _ h => h) (Or.inl ⟨by rfl, ?_⟩) ?_ ?_
                     rotate_left
                     ·intro w'
                      go_simp
                      with_reducible rfl
                     rotate_left
                     ·simp only [Act.put, List.setIfInBounds_toArray, List.set_cons_zero, List.set_cons_succ, i64_w, i32_w]
                      rfl
                     refine take_ (i := 10) (N := some 117) (v := ?_) (a' := ?_) #[true, true, true, true, true, true, true, true, true, true, true, false, false, true, false, true, false, false, false, true, false, false, false, false, false, false] rfl rfl (take_ofW HT_.out HW_.out (by kernel_rfl)) (fun _ _ _ h => h) (Or.inl ⟨by rfl, ?_⟩) hHeld ?_ ?_
                     rotate_left
                     ·rintro w' ⟨s0, s1, s2, s3, s4, s5, s6, s7, s8, s9, s10, s11, s12, s13, s14, s15, s16, s17, s18, s19, s20, s21, s22, s23, s24, s25, s26, s27, s28, s29, s30, s31, s32, s33, s34, s35, s36, s37, s38, s39, s40, s41, s42, s43, s44⟩
                      go_simp
                      with_reducible rfl
                     rotate_left
                     ·simp only [Act.put, List.setIfInBounds_toArray, List.set_cons_zero, List.set_cons_succ, i64_w, i32_w]
                      rfl
                     refine take_ (i := 14) (N := some 121) (v := ?_) (a' := ?_) #[true, true, true, true, true, true, true, true, true, true, true, false, false, true, true, true, false, false, false, true, false, false, false, false, false, false] rfl rfl (take_ofW HT_.out HW_.out (by kernel_rfl)) (fun _ _ _ h => h) (Or.inl ⟨by rfl, ?_⟩) hHeld ?_ ?_
                     rotate_left
                     ·rintro w' ⟨s0, s1, s2, s3, s4, s5, s6, s7, s8, s9, s10, s11, s12, s13, s14, s15, s16, s17, s18, s19, s20, s21, s22, s23, s24, s25, s26, s27, s28, s29, s30, s31, s32, s33, s34, s35, s36, s37, s38, s39, s40, s41, s42, s43, s44⟩
                      go_simp
                      with_reducible rfl
                     rotate_left
                     ·simp only [Act.put, List.setIfInBounds_toArray, List.set_cons_zero, List.set_cons_succ, i64_w, i32_w]
                      rfl
                     refine pure_ (i := 16) (N := some 123) (v := ?_) (a' := ?_) #[true, true, true, true, true, true, true, true, true, true, true, false, false, true, true, true, true, false, false, true, false, false, false, false, false, false] rfl rfl (any_of HT_.out (by kernel_rfl)) (fun _ _ _ h => h) (Or.inl ⟨by rfl, ?_⟩) ?_ ?_
                     rotate_left
                     ·intro w'
                      go_simp
                      with_reducible rfl
                     rotate_left
                     ·simp only [Act.put, List.setIfInBounds_toArray, List.set_cons_zero, List.set_cons_succ, i64_w, i32_w]
                      rfl
                     refine pure_ (i := 17) (N := some 124) (v := ?_) (a' := ?_) #[true, true, true, true, true, true, true, true, true, true, true, false, false, true, true, true, true, true, false, true, false, false, false, false, false, false] rfl rfl (any_of HT_.out (by kernel_rfl)) (fun _ _ _ h => h) (Or.inl ⟨by rfl, ?_⟩) ?_ ?_
                     rotate_left
                     ·intro w'
                      go_simp
                      with_reducible rfl
                     rotate_left
                     ·simp only [Act.put, List.setIfInBounds_toArray, List.set_cons_zero, List.set_cons_succ, i64_w, i32_w]
                      rfl
                     refine take_ (i := 18) (N := some 125) (v := ?_) (a' := ?_) #[true, true, true, true, true, true, true, true, true, true, true, false, false, true, true, true, true, true, true, true, false, false, false, false, false, false] rfl rfl (take_ofW HT_.out HW_.out (by kernel_rfl)) (fun _ _ _ h => h) (Or.inl ⟨by rfl, ?_⟩) hHeld ?_ ?_
                     rotate_left
                     ·rintro w' ⟨s0, s1, s2, s3, s4, s5, s6, s7, s8, s9, s10, s11, s12, s13, s14, s15, s16, s17, s18, s19, s20, s21, s22, s23, s24, s25, s26, s27, s28, s29, s30, s31, s32, s33, s34, s35, s36, s37, s38, s39, s40, s41, s42, s43, s44⟩
                      go_simp
                      with_reducible rfl
                     rotate_left
                     ·simp only [Act.put, List.setIfInBounds_toArray, List.set_cons_zero, List.set_cons_succ, i64_w, i32_w]
                      rfl
                     refine pure_ (i := 20) (N := some 127) (v := ?_) (a' := ?_) #[true, true, true, true, true, true, true, true, true, true, true, false, false, true, true, true, true, true, true, true, true, false, false, false, false, false] rfl rfl (any_of HT_.out (by kernel_rfl)) (fun _ _ _ h => h) (Or.inl ⟨by rfl, ?_⟩) ?_ ?_
                     rotate_left
                     ·intro w'
                      go_simp
                      with_reducible rfl
                     rotate_left
                     ·simp only [Act.put, List.setIfInBounds_toArray, List.set_cons_zero, List.set_cons_succ, i64_w, i32_w]
                      rfl
                     refine pure_ (i := 21) (N := some 128) (v := ?_) (a' := ?_) #[true, true, true, true, true, true, true, true, true, true, true, false, false, true, true, true, true, true, true, true, true, true, false, false, false, false] rfl rfl (any_of HT_.out (by kernel_rfl)) (fun _ _ _ h => h) (Or.inl ⟨by rfl, ?_⟩) ?_ ?_
                     rotate_left
                     ·intro w'
                      go_simp
                      with_reducible rfl
                     rotate_left
                     ·simp only [Act.put, List.setIfInBounds_toArray, List.set_cons_zero, List.set_cons_succ, i64_w, i32_w]
                      rfl
                     refine take_ (i := 22) (N := some 129) (v := ?_) (a' := ?_) #[true, true, true, true, true, true, true, true, true, true, true, false, false, true, true, true, true, true, true, true, true, true, true, false, false, false] rfl rfl (take_ofW HT_.out HW_.out (by kernel_rfl)) (fun _ _ _ h => h) (Or.inl ⟨by rfl, ?_⟩) hHeld ?_ ?_
                     rotate_left
                     ·rintro w' ⟨s0, s1, s2, s3, s4, s5, s6, s7, s8, s9, s10, s11, s12, s13, s14, s15, s16, s17, s18, s19, s20, s21, s22, s23, s24, s25, s26, s27, s28, s29, s30, s31, s32, s33, s34, s35, s36, s37, s38, s39, s40, s41, s42, s43, s44⟩
                      go_simp
                      with_reducible rfl
                     rotate_left
                     ·simp only [Act.put, List.setIfInBounds_toArray, List.set_cons_zero, List.set_cons_succ, i64_w, i32_w]
                      rfl
                     refine one_ (i := 11) (N := some 118) #[true, true, true, true, true, true, true, true, true, true, true, true, false, true, true, true, true, true, true, true, true, true, true, false, false, false] rfl rfl (one_of HT_.out (by kernel_rfl)) (by decide) (fun K hK => ?_)
                     refine goes_ Try.func27 (by kernel_rfl) rfl #[.agg #[.int .i64 ((rd_T100 ((rd_T77 l0_5 x6_3).f6) x7_5).f2.f0), .int .i64 ((rd_T100 ((rd_T77 l0_5 x6_3).f6) x7_5).f2.f1), .int .i64 ((rd_T100 ((rd_T77 l0_5 x6_3).f6) x7_5).f2.f2), .int .i64 ((rd_T100 ((rd_T77 l0_5 x6_3).f6) x7_5).f2.f3), .slice A218_6 ((rd_T100 ((rd_T77 l0_5 x6_3).f6) x7_5).f2.f4).length c218_6], .int .i64 32768] (by rfl) rfl rfl agx ?_
                     with_reducible refine (levylaw7_nodes.calls kj25 ((rd_T100 ((rd_T77 l0_5 x6_3).f6) x7_5).f2.f0) ((rd_T100 ((rd_T77 l0_5 x6_3).f6) x7_5).f2.f1) ((rd_T100 ((rd_T77 l0_5 x6_3).f6) x7_5).f2.f2) ((rd_T100 ((rd_T77 l0_5 x6_3).f6) x7_5).f2.f3) _ _ ((rd_T100 ((rd_T77 l0_5 x6_3).f6) x7_5).f2.f4) 32768 t219 _ ?side1 ?side2 A37.out).mono ?_
                     (case side1 => repeat (first | exact (Kd.C_below HR218_6.out HB.out) | (with_reducible refine Kd.C_alloc ?_ _) | (with_reducible refine Kd.C_drewN ?_ _) | (with_reducible refine Kd.C_drew ?_)))
                     (case side2 => exact HC218_6.out)
                     rintro e w40 ⟨rfl, hb⟩
                     refine ⟨_, rfl, ?_⟩
                     have n0_ := Aside0.mk (blk_below (g := gb212) (o := .cells #[.string a0_0, .int .i64 a0_1, .slice A0_2 l0_2.length c0_2, .slice A0_3 l0_3.length c0_3, .slice A0_4 l0_4.length c0_4, .slice (some ad215) l0_5.length c0_5, .slice A0_6 l0_6.length c0_6] 33 (0, 0)) bkx hb)
                     have n1_ := Aside0.mk (below_step blx hb)
                     clear BK212
                     clear HB
                     have BK212 := n0_
                     have HB := n1_
                     clear n0_ n1_
                     (try clear hb)
                     (try clear hb2)
                     (try clear hk)
                     (try clear hi)
                     refine hK.out _ _ ⟨(blk_cell BK212.out 0).trans rfl, (blk_cell BK212.out 1).trans rfl, (blk_cell BK212.out 2).trans rfl, (blk_cell BK212.out 3).trans rfl, (blk_cell BK212.out 4).trans rfl, (blk_cell BK212.out 5).trans rfl, (blk_cell BK212.out 6).trans rfl, ((HB.out.cell (World.block_lt_of_cell? w _ hw217_0)).trans hw217_0), ((HB.out.cell (World.block_lt_of_cell? w _ hw217_1)).trans hw217_1), ((HB.out.cell (World.block_lt_of_cell? w _ hw217_2)).trans hw217_2), ((HB.out.cell (World.block_lt_of_cell? w _ hw217_3)).trans hw217_3), ((HB.out.cell (World.block_lt_of_cell? w _ hw217_4)).trans hw217_4), ((HB.out.cell (World.block_lt_of_cell? w _ hw217_5)).trans hw217_5), ((HB.out.cell (World.block_lt_of_cell? w _ hw217_6)).trans hw217_6), ((HB.out.cell (World.block_lt_of_cell? w _ hw218_0)).trans hw218_0), ((HB.out.cell (World.block_lt_of_cell? w _ hw218_1)).trans hw218_1), ((HB.out.cell (World.block_lt_of_cell? w _ hw218_2)).trans hw218_2), ((HB.out.cell (World.block_lt_of_cell? w _ hw218_3)).trans hw218_3), ((HB.out.cell (World.block_lt_of_cell? w _ hw218_4)).trans hw218_4), ((HB.out.cell (World.block_lt_of_cell? w _ hw218_5)).trans hw218_5), ((HB.out.cell (World.block_lt_of_cell? w _ hw218_6)).trans hw218_6), ((HB.out.cell (World.block_lt_of_cell? w _ hw218_7)).trans hw218_7), ((HB.out.cell (World.block_lt_of_cell? w _ hw218_8)).trans hw218_8), ((HB.out.cell (World.block_lt_of_cell? w _ hw218_9)).trans hw218_9), ((HB.out.cell (World.block_lt_of_cell? w _ hw218_10)).trans hw218_10), ((HB.out.cell (World.block_lt_of_cell? w _ hw218_11)).trans hw218_11), ((HB.out.cell (World.block_lt_of_cell? w _ hw220_0)).trans hw220_0), ((HB.out.cell (World.block_lt_of_cell? w _ hw220_1)).trans hw220_1), ((HB.out.cell (World.block_lt_of_cell? w _ hw220_2)).trans hw220_2), ((HB.out.cell (World.block_lt_of_cell? w _ hw220_3)).trans hw220_3), ((HB.out.cell (World.block_lt_of_cell? w _ hw220_4)).trans hw220_4), ((HB.out.cell (World.block_lt_of_cell? w _ hw220_5)).trans hw220_5), ((HB.out.cell (World.block_lt_of_cell? w _ hw220_6)).trans hw220_6), ((HB.out.cell (World.block_lt_of_cell? w _ hw221_0)).trans hw221_0), ((HB.out.cell (World.block_lt_of_cell? w _ hw221_1)).trans hw221_1), ((HB.out.cell (World.block_lt_of_cell? w _ hw221_2)).trans hw221_2), ((HB.out.cell (World.block_lt_of_cell? w _ hw221_3)).trans hw221_3), ((HB.out.cell (World.block_lt_of_cell? w _ hw221_4)).trans hw221_4), ((HB.out.cell (World.block_lt_of_cell? w _ hw221_5)).trans hw221_5), ((HB.out.cell (World.block_lt_of_cell? w _ hw221_6)).trans hw221_6), ((HB.out.cell (World.block_lt_of_cell? w _ hw221_7)).trans hw221_7), ((HB.out.cell (World.block_lt_of_cell? w _ hw221_8)).trans hw221_8), ((HB.out.cell (World.block_lt_of_cell? w _ hw221_9)).trans hw221_9), ((HB.out.cell (World.block_lt_of_cell? w _ hw221_10)).trans hw221_10), ((HB.out.cell (World.block_lt_of_cell? w _ hw221_11)).trans hw221_11)⟩ (fun hHeld => ?_)
                     clear hK K
                     refine norm_ (a' := ?_) ?_ ?_
                     rotate_left
                     ·show Act.put _ (some 118) _ = _
                      simp only [Act.put, List.setIfInBounds_toArray, List.set_cons_zero, List.set_cons_succ, i64_w, i32_w]
                      rfl
                     refine pure_ (i := 12) (N := some 119) (v := ?_) (a' := ?_) #[true, true, true, true, true, true, true, true, true, true, true, true, true, true, true, true, true, true, true, true, true, true, true, false, false, false] rfl rfl (any_of HT_.out (by kernel_rfl)) (fun _ _ _ h => h) (Or.inl ⟨by rfl, ?_⟩) ?_ ?_
                     rotate_left
                     ·intro w'
                      go_simp
                      with_reducible rfl
                     rotate_left
                     ·simp only [Act.put, List.setIfInBounds_toArray, List.set_cons_zero, List.set_cons_succ, i64_w, i32_w]
                      rfl
                     refine one_ (i := 23) (N := some 130) #[true, true, true, true, true, true, true, true, true, true, true, true, true, true, true, true, true, true, true, true, true, true, true, true, false, false] rfl rfl (one_of HT_.out (by kernel_rfl)) (by decide) (fun K hK => ?_)
                     refine goes_ Try.func27 (by kernel_rfl) rfl #[.agg #[.int .i64 ((rd_T100 ((rd_T77 l0_5 x6_3).f6) x7_5).f3.f0), .int .i64 ((rd_T100 ((rd_T77 l0_5 x6_3).f6) x7_5).f3.f1), .int .i64 ((rd_T100 ((rd_T77 l0_5 x6_3).f6) x7_5).f3.f2), .int .i64 ((rd_T100 ((rd_T77 l0_5 x6_3).f6) x7_5).f3.f3), .slice A218_11 ((rd_T100 ((rd_T77 l0_5 x6_3).f6) x7_5).f3.f4).length c218_11], .int .i64 32768] (by rfl) rfl rfl agx ?_
                     with_reducible refine (levylaw7_nodes.calls kj25 ((rd_T100 ((rd_T77 l0_5 x6_3).f6) x7_5).f3.f0) ((rd_T100 ((rd_T77 l0_5 x6_3).f6) x7_5).f3.f1) ((rd_T100 ((rd_T77 l0_5 x6_3).f6) x7_5).f3.f2) ((rd_T100 ((rd_T77 l0_5 x6_3).f6) x7_5).f3.f3) _ _ ((rd_T100 ((rd_T77 l0_5 x6_3).f6) x7_5).f3.f4) 32768 t222 _ ?side1 ?side2 A38.out).mono ?_
                     (case side1 => repeat (first | exact (Kd.C_below HR221_11.out HB.out) | (with_reducible refine Kd.C_alloc ?_ _) | (with_reducible refine Kd.C_drewN ?_ _) | (with_reducible refine Kd.C_drew ?_)))
                     (case side2 => exact HC221_11.out)
                     rintro e w41 ⟨rfl, hb⟩
                     refine ⟨_, rfl, ?_⟩
                     have n0_ := Aside0.mk (blk_below (g := gb212) (o := .cells #[.string a0_0, .int .i64 a0_1, .slice A0_2 l0_2.length c0_2, .slice A0_3 l0_3.length c0_3, .slice A0_4 l0_4.length c0_4, .slice (some ad215) l0_5.length c0_5, .slice A0_6 l0_6.length c0_6] 33 (0, 0)) bkx hb)
                     have n1_ := Aside0.mk (below_step blx hb)
                     clear BK212
                     clear HB
                     have BK212 := n0_
                     have HB := n1_
                     clear n0_ n1_
                     (try clear hb)
                     (try clear hb2)
                     (try clear hk)
                     (try clear hi)
                     refine hK.out _ _ ⟨(blk_cell BK212.out 0).trans rfl, (blk_cell BK212.out 1).trans rfl, (blk_cell BK212.out 2).trans rfl, (blk_cell BK212.out 3).trans rfl, (blk_cell BK212.out 4).trans rfl, (blk_cell BK212.out 5).trans rfl, (blk_cell BK212.out 6).trans rfl, ((HB.out.cell (World.block_lt_of_cell? w _ hw217_0)).trans hw217_0), ((HB.out.cell (World.block_lt_of_cell? w _ hw217_1)).trans hw217_1), ((HB.out.cell (World.block_lt_of_cell? w _ hw217_2)).trans hw217_2), ((HB.out.cell (World.block_lt_of_cell? w _ hw217_3)).trans hw217_3), ((HB.out.cell (World.block_lt_of_cell? w _ hw217_4)).trans hw217_4), ((HB.out.cell (World.block_lt_of_cell? w _ hw217_5)).trans hw217_5), ((HB.out.cell (World.block_lt_of_cell? w _ hw217_6)).trans hw217_6), ((HB.out.cell (World.block_lt_of_cell? w _ hw218_0)).trans hw218_0), ((HB.out.cell (World.block_lt_of_cell? w _ hw218_1)).trans hw218_1), ((HB.out.cell (World.block_lt_of_cell? w _ hw218_2)).trans hw218_2), ((HB.out.cell (World.block_lt_of_cell? w _ hw218_3)).trans hw218_3), ((HB.out.cell (World.block_lt_of_cell? w _ hw218_4)).trans hw218_4), ((HB.out.cell (World.block_lt_of_cell? w _ hw218_5)).trans hw218_5), ((HB.out.cell (World.block_lt_of_cell? w _ hw218_6)).trans hw218_6), ((HB.out.cell (World.block_lt_of_cell? w _ hw218_7)).trans hw218_7), ((HB.out.cell (World.block_lt_of_cell? w _ hw218_8)).trans hw218_8), ((HB.out.cell (World.block_lt_of_cell? w _ hw218_9)).trans hw218_9), ((HB.out.cell (World.block_lt_of_cell? w _ hw218_10)).trans hw218_10), ((HB.out.cell (World.block_lt_of_cell? w _ hw218_11)).trans hw218_11), ((HB.out.cell (World.block_lt_of_cell? w _ hw220_0)).trans hw220_0), ((HB.out.cell (World.block_lt_of_cell? w _ hw220_1)).trans hw220_1), ((HB.out.cell (World.block_lt_of_cell? w _ hw220_2)).trans hw220_2), ((HB.out.cell (World.block_lt_of_cell? w _ hw220_3)).trans hw220_3), ((HB.out.cell (World.block_lt_of_cell? w _ hw220_4)).trans hw220_4), ((HB.out.cell (World.block_lt_of_cell? w _ hw220_5)).trans hw220_5), ((HB.out.cell (World.block_lt_of_cell? w _ hw220_6)).trans hw220_6), ((HB.out.cell (World.block_lt_of_cell? w _ hw221_0)).trans hw221_0), ((HB.out.cell (World.block_lt_of_cell? w _ hw221_1)).trans hw221_1), ((HB.out.cell (World.block_lt_of_cell? w _ hw221_2)).trans hw221_2), ((HB.out.cell (World.block_lt_of_cell? w _ hw221_3)).trans hw221_3), ((HB.out.cell (World.block_lt_of_cell? w _ hw221_4)).trans hw221_4), ((HB.out.cell (World.block_lt_of_cell? w _ hw221_5)).trans hw221_5), ((HB.out.cell (World.block_lt_of_cell? w _ hw221_6)).trans hw221_6), ((HB.out.cell (World.block_lt_of_cell? w _ hw221_7)).trans hw221_7), ((HB.out.cell (World.block_lt_of_cell? w _ hw221_8)).trans hw221_8), ((HB.out.cell (World.block_lt_of_cell? w _ hw221_9)).trans hw221_9), ((HB.out.cell (World.block_lt_of_cell? w _ hw221_10)).trans hw221_10), ((HB.out.cell (World.block_lt_of_cell? w _ hw221_11)).trans hw221_11)⟩ (fun hHeld => ?_)
                     clear hK K
                     refine norm_ (a' := ?_) ?_ ?_
                     rotate_left
                     ·show Act.put _ (some 130) _ = _
                      simp only [Act.put, List.setIfInBounds_toArray, List.set_cons_zero, List.set_cons_succ, i64_w, i32_w]
                      rfl
                     refine pure_ (i := 24) (N := some 131) (v := ?_) (a' := ?_) #[true, true, true, true, true, true, true, true, true, true, true, true, true, true, true, true, true, true, true, true, true, true, true, true, true, false] rfl rfl (any_of HT_.out (by kernel_rfl)) (fun _ _ _ h => h) (Or.inl ⟨by rfl, ?_⟩) ?_ ?_
                     rotate_left
                     ·intro w'
                      go_simp
                      with_reducible rfl
                     rotate_left
                     ·simp only [Act.put, List.setIfInBounds_toArray, List.set_cons_zero, List.set_cons_succ, i64_w, i32_w]
                      rfl
                     refine pure_ (i := 25) (N := some 3) (v := ?_) (a' := ?_) #[true, true, true, true, true, true, true, true, true, true, true, true, true, true, true, true, true, true, true, true, true, true, true, true, true, true] rfl rfl (any_of HT_.out (by kernel_rfl)) (fun _ _ _ h => h) (Or.inl ⟨by rfl, ?_⟩) ?_ ?_
                     rotate_left
                     ·intro w'
                      go_simp
                      with_reducible rfl
                     rotate_left
                     ·simp only [Act.put, List.setIfInBounds_toArray, List.set_cons_zero, List.set_cons_succ, i64_w, i32_w]
                      rfl
                     refine done_ (done_of HT_.out (by kernel_rfl)) ?_
                     try go_wp2
                     go_roundg kj25
                     case measure => have := HJ1.out; have := HJ10.out; have := HK3.out; have := HJ17.out; have := HK5.out; have := HJ25.out; omega
                     case rel => exact ⟨(wrap64 ((wrap64 (x3_5 + t219)) + t222)), (wrap64 (x7_5 + 1)), (by first | rfl | (simp; done) | (simp [*]; done)), (by first | rfl | (simp; done) | (simp [*]; done)), H', ⟨by have := HJ1.out; have := HJ10.out; have := HK3.out; have := HJ17.out; have := HK5.out; have := HJ25.out; omega⟩, ⟨bkx⟩, ⟨blx⟩⟩
                    ·rw [if_neg c36] at H
                     exact absurd H (by simp)
                   ·rw [if_neg c35] at H
                    exact absurd H (by simp)
                  ·rw [if_neg c34] at H
                   exact absurd H (by simp)
                 ·rw [if_neg c33] at H
                  exact absurd H (by simp)
                ·replace c32 := Bool.eq_false_iff.mpr c32
                 subst c32
                 have H1 : (levylaw7_small.l2 kj25 x3_5 (wrap64 (x6_3 + 1)) a0_0 a0_1 l0_2 l0_3 l0_4 l0_5 l0_6) = some r := by rw [if_neg (show ¬ (false = true) by decide)] at H; exact H
                 clear H
                 have H := H1
                 clear H1
                 have H' := Aside0.mk H
                 clear H
                 go_wp2
                 go_roundg kj25
                 case measure => have := HJ1.out; have := HJ10.out; have := HK3.out; have := HJ17.out; have := HK5.out; have := HJ25.out; omega
                 case rel => exact ⟨(x3_5), (wrap64 (x6_3 + 1)), (by first | rfl | (simp; done) | (simp [*]; done)), (by first | rfl | (simp; done) | (simp [*]; done)), H', ⟨by have := HJ1.out; have := HJ10.out; have := HK3.out; have := HJ17.out; have := HK5.out; have := HJ25.out; omega⟩, ⟨bkx⟩, ⟨blx⟩⟩
           ·rw [if_neg c24] at H
            exact absurd H (by simp)
          ·rw [if_neg c23] at H
           exact absurd H (by simp)
         ·replace c22 := Bool.eq_false_iff.mpr c22
          subst c22
          have H1 : (levylaw7_small.l4 kj17 x3_3 0 a0_0 a0_1 l0_2 l0_3 l0_4 l0_5 l0_6) = some r := by rw [if_neg (show ¬ (false = true) by decide)] at H; exact H
          clear H
          have H := H1
          clear H1
          have H' := Aside0.mk H
          clear H
          go_wp2
          go_loopg [3, 8] kj17 (fun kq v3 v8 w' => ∃ (x3_5 : Int) (x8_5 : Int), v3 = .int .i64 x3_5 ∧ v8 = .int .i64 x8_5 ∧ Aside0 (levylaw7_small.l4 kq x3_5 x8_5 a0_0 a0_1 l0_2 l0_3 l0_4 l0_5 l0_6 = some r) ∧ Aside0 (kq ≤ kj17) ∧ Aside0 (w'.heap[gb212]? = some (.cells #[.string a0_0, .int .i64 a0_1, (.slice A0_2 l0_2.length c0_2), (.slice A0_3 l0_3.length c0_3), (.slice A0_4 l0_4.length c0_4), (.slice A0_5 l0_5.length c0_5), (.slice A0_6 l0_6.length c0_6)] 33 (0, 0))) ∧ Aside0 (Below w.heap.size w w'))
          case atStart => exact ⟨(x3_3), (0), (by first | rfl | (simp; done) | (simp [*]; done)), (by first | rfl | (simp; done) | (simp [*]; done)), H', ⟨Nat.le_refl _⟩, ⟨bkx⟩, ⟨blx⟩⟩
          case round =>
           clear H'
           try clear c2
           try clear p2
           try clear q2
           try clear hx2
           try clear c3
           try clear p6
           try clear c21
           try clear p21
           try clear q21
           try clear hx21
           try clear c22
           try clear p22
           try clear q22
           try clear hx22
           try clear c23
           try clear c24
           try clear c27
           try clear c32
           try clear c33
           try clear c33b0
           try clear c34
           try clear c34b0
           try clear c35
           try clear c35b0
           try clear c36
           try clear c36b0
           try clear hcz31_1
           try clear hcz31_2
           try clear hcz31_3
           try clear hcz31_4
           try clear hcz31_5
           try clear hcz31_6
           try clear hcz4_0
           try clear hcz4_1
           try clear hcz4_2
           try clear hcz4_3
           try clear hcz4_4
           try clear hcz4_5
           try clear hcz4_6
           try clear hcz8_0
           try clear hcz8_1
           try clear hcz8_2
           try clear hcz8_3
           try clear hcz8_4
           try clear hcz8_5
           try clear hcz8_6
           try clear hcz9_0
           try clear hcz9_1
           try clear hcz9_2
           try clear hcz9_3
           try clear hcz9_4
           try clear hcz9_5
           try clear hcz9_6
           try clear hfz10_0
           try clear hfz10_1
           try clear hfz10_2
           try clear hfz10_3
           try clear hfz10_4
           try clear hfz10_5
           try clear hfz10_6
           try clear hfz15_0
           try clear hfz15_1
           try clear hfz15_2
           try clear hfz15_3
           try clear hfz15_4
           try clear hfz15_5
           try clear hfz15_6
           try clear hfz16_0
           try clear hfz16_1
           try clear hfz16_2
           try clear hfz16_3
           try clear hfz16_4
           try clear hfz16_5
           try clear hfz16_6
           try clear hfz17_0
           try clear hfz17_1
           try clear hfz17_2
           try clear hfz17_3
           try clear hfz17_4
           try clear hfz17_5
           try clear hfz17_6
           try clear hfz20_0
           try clear hfz20_1
           try clear hfz20_2
           try clear hfz20_3
           try clear hfz20_4
           try clear hfz20_5
           try clear hfz20_6
           try clear hfz21_0
           try clear hfz21_1
           try clear hfz21_2
           try clear hfz21_3
           try clear hfz21_4
           try clear hfz21_5
           try clear hfz21_6
           try clear hfz25_0
           try clear hfz25_1
           try clear hfz25_2
           try clear hfz25_3
           try clear hfz25_4
           try clear hfz25_5
           try clear hfz25_6
           try clear hfz30_0
           try clear hfz30_1
           try clear hfz30_2
           try clear hfz30_3
           try clear hfz30_4
           try clear hfz30_5
           try clear hfz30_6
           try clear hfz31_0
           try clear hfz31_1
           try clear hfz31_2
           try clear hfz31_3
           try clear hfz31_4
           try clear hfz31_5
           try clear hfz31_6
           try clear hfz4_0
           try clear hfz4_1
           try clear hfz4_2
           try clear hfz4_3
           try clear hfz4_4
           try clear hfz4_5
           try clear hfz4_6
           try clear hfz8_0
           try clear hfz8_1
           try clear hfz8_2
           try clear hfz8_3
           try clear hfz8_4
           try clear hfz8_5
           try clear hfz8_6
           try clear hfz9_0
           try clear hfz9_1
           try clear hfz9_2
           try clear hfz9_3
           try clear hfz9_4
           try clear hfz9_5
           try clear hfz9_6
           try clear hx213_0
           try clear hx213_1
           try clear hx214_0
           try clear hx214_1
           try clear hx215_0
           try clear hx215_1
           try clear hx215_2
           try clear hx215_3
           try clear hx215_4
           try clear hx215_5
           try clear hx215_6
           try clear hx216_0
           try clear hx216_1
           try clear hx216_2
           try clear hx216_3
           try clear hx216_4
           try clear hx216_5
           try clear hx216_6
           try clear hx217_0
           try clear hx217_1
           try clear hx217_2
           try clear hx217_3
           try clear hx217_4
           try clear hx217_5
           try clear hx217_6
           try clear hx218_0
           try clear hx218_1
           try clear hx218_10
           try clear hx218_11
           try clear hx218_2
           try clear hx218_3
           try clear hx218_4
           try clear hx218_5
           try clear hx218_6
           try clear hx218_7
           try clear hx218_8
           try clear hx218_9
           try clear hx220_0
           try clear hx220_1
           try clear hx220_2
           try clear hx220_3
           try clear hx220_4
           try clear hx220_5
           try clear hx220_6
           try clear hx221_0
           try clear hx221_1
           try clear hx221_10
           try clear hx221_11
           try clear hx221_2
           try clear hx221_3
           try clear hx221_4
           try clear hx221_5
           try clear hx221_6
           try clear hx221_7
           try clear hx221_8
           try clear hx221_9
           try clear p2
           try clear p21
           try clear p213
           try clear p214
           try clear p215
           try clear p216
           try clear p217
           try clear p218
           try clear p220
           try clear p221
           try clear p6
           try clear q2
           try clear q21
           try clear q213
           try clear q214
           try clear q215
           try clear q216
           try clear q217
           try clear q218
           try clear q220
           try clear q221
           obtain ⟨x3_5, x8_5, rfl, rfl, HA, HK5, BK212, HB⟩ := hrel
           cases gk with
           | zero => exact absurd HA.out (by simp [levylaw7_small.l4])
           | succ k5 =>
            have H := HA.out
            clear HA
            simp only [levylaw7_small.l4] at H
            by_cases c42 : x8_5 < (l0_6.length : Int)
            ·rw [if_pos c42] at H
             have c42b0 : decide (x8_5 < (l0_6.length : Int)) = true := decide_eq_true c42
             clear c42
             by_cases c43 : x3_5 ≤ 32768
             ·rw [if_pos c43] at H
              have c43b0 : decide (x3_5 ≤ 32768) = true := decide_eq_true c43
              clear c43
              by_cases c44 : 0 ≤ x8_5
              ·rw [if_pos c44] at H
               have c44b0 : decide (0 ≤ x8_5) = true := decide_eq_true c44
               clear c44
               replace H := Option.bind_eq_some_iff.mp H
               obtain ⟨t224, A450, H⟩ := H
               replace H : (levylaw7_small.l4 k5 (wrap64 ((wrap64 ((wrap64 (x3_5 + t224)) + (((rd_T82 l0_6 x8_5).f0).size : Int))) + (((rd_T82 l0_6 x8_5).f4).size : Int))) (wrap64 (x8_5 + 1)) a0_0 a0_1 l0_2 l0_3 l0_4 l0_5 l0_6) = some r := H
               have A45 := Aside0.mk A450
               clear A450
               have H' := Aside0.mk H
               clear H
               have hcz46_0 : wr.cell? ⟨gb212, 0, none⟩ = some (.string a0_0) := (blk_cell BK212.out 0).trans rfl
               have hcz46_1 : wr.cell? ⟨gb212, 1, none⟩ = some (.int .i64 a0_1) := (blk_cell BK212.out 1).trans rfl
               have hcz46_2 : wr.cell? ⟨gb212, 2, none⟩ = some (.slice A0_2 l0_2.length c0_2) := (blk_cell BK212.out 2).trans rfl
               have hcz46_3 : wr.cell? ⟨gb212, 3, none⟩ = some (.slice A0_3 l0_3.length c0_3) := (blk_cell BK212.out 3).trans rfl
               have hcz46_4 : wr.cell? ⟨gb212, 4, none⟩ = some (.slice A0_4 l0_4.length c0_4) := (blk_cell BK212.out 4).trans rfl
               have hcz46_5 : wr.cell? ⟨gb212, 5, none⟩ = some (.slice A0_5 l0_5.length c0_5) := (blk_cell BK212.out 5).trans rfl
               have hcz46_6 : wr.cell? ⟨gb212, 6, none⟩ = some (.slice A0_6 l0_6.length c0_6) := (blk_cell BK212.out 6).trans rfl
               have hfz46_0 := blk_frozen BK212.out 0
               have hfz46_1 := blk_frozen BK212.out 1
               have hfz46_2 := blk_frozen BK212.out 2
               have hfz46_3 := blk_frozen BK212.out 3
               have hfz46_4 := blk_frozen BK212.out 4
               have hfz46_5 := blk_frozen BK212.out 5
               have hfz46_6 := blk_frozen BK212.out 6
               try go_wp2
               have n0_ := Aside0.mk (blk_drew BK212.out)
               have n1_ := Aside0.mk (below_drew1 HB.out)
               clear BK212
               clear HB
               have BK212 := n0_
               have HB := n1_
               clear n0_ n1_
               have p223 : 0 ≤ (x8_5 : Int) := odx
               have q223 : x8_5 < (l0_6.length : Int) := odx
               obtain ⟨ad223, A223_7, c223_7, e223, hx223_0, hx223_1, hx223_2, hx223_3, hx223_4, hx223_5, hx223_6, hx223_7, hx223_8, hl223_7, hi223_7⟩ := at_T82 HR0_6.out x8_5 p223 q223
               have hw223_8 := hx223_8
               have hw223_7 := hx223_7
               have hw223_6 := hx223_6
               have hw223_5 := hx223_5
               have hw223_4 := hx223_4
               have hw223_3 := hx223_3
               have hw223_2 := hx223_2
               have hw223_1 := hx223_1
               have hw223_0 := hx223_0
               cases e223
               replace hx223_0 := (HB.out.cell (World.block_lt_of_cell? w _ hx223_0)).trans hx223_0
               replace hx223_1 := (HB.out.cell (World.block_lt_of_cell? w _ hx223_1)).trans hx223_1
               replace hx223_2 := (HB.out.cell (World.block_lt_of_cell? w _ hx223_2)).trans hx223_2
               replace hx223_3 := (HB.out.cell (World.block_lt_of_cell? w _ hx223_3)).trans hx223_3
               replace hx223_4 := (HB.out.cell (World.block_lt_of_cell? w _ hx223_4)).trans hx223_4
               replace hx223_5 := (HB.out.cell (World.block_lt_of_cell? w _ hx223_5)).trans hx223_5
               replace hx223_6 := (HB.out.cell (World.block_lt_of_cell? w _ hx223_6)).trans hx223_6
               replace hx223_7 := (HB.out.cell (World.block_lt_of_cell? w _ hx223_7)).trans hx223_7
               replace hx223_8 := (HB.out.cell (World.block_lt_of_cell? w _ hx223_8)).trans hx223_8
               have HR223_7 := Aside0.mk hi223_7
               have HC223_7 := Aside0.mk hl223_7
               clear hi223_7 hl223_7
               replace p223 := eq_true p223
               replace q223 := eq_true q223
               have p225 : 0 ≤ (x8_5 : Int) := odx
               have q225 : x8_5 < (l0_6.length : Int) := odx
               obtain ⟨ad225, A225_7, c225_7, e225, hx225_0, hx225_1, hx225_2, hx225_3, hx225_4, hx225_5, hx225_6, hx225_7, hx225_8, hl225_7, hi225_7⟩ := at_T82 HR0_6.out x8_5 p225 q225
               have hw225_8 := hx225_8
               have hw225_7 := hx225_7
               have hw225_6 := hx225_6
               have hw225_5 := hx225_5
               have hw225_4 := hx225_4
               have hw225_3 := hx225_3
               have hw225_2 := hx225_2
               have hw225_1 := hx225_1
               have hw225_0 := hx225_0
               obtain rfl : ad223 = ad225 := (by injection e225)
               replace hx225_0 := (HB.out.cell (World.block_lt_of_cell? w _ hx225_0)).trans hx225_0
               replace hx225_1 := (HB.out.cell (World.block_lt_of_cell? w _ hx225_1)).trans hx225_1
               replace hx225_2 := (HB.out.cell (World.block_lt_of_cell? w _ hx225_2)).trans hx225_2
               replace hx225_3 := (HB.out.cell (World.block_lt_of_cell? w _ hx225_3)).trans hx225_3
               replace hx225_4 := (HB.out.cell (World.block_lt_of_cell? w _ hx225_4)).trans hx225_4
               replace hx225_5 := (HB.out.cell (World.block_lt_of_cell? w _ hx225_5)).trans hx225_5
               replace hx225_6 := (HB.out.cell (World.block_lt_of_cell? w _ hx225_6)).trans hx225_6
               replace hx225_7 := (HB.out.cell (World.block_lt_of_cell? w _ hx225_7)).trans hx225_7
               replace hx225_8 := (HB.out.cell (World.block_lt_of_cell? w _ hx225_8)).trans hx225_8
               have HR225_7 := Aside0.mk hi225_7
               have HC225_7 := Aside0.mk hl225_7
               clear hi225_7 hl225_7
               replace p225 := eq_true p225
               replace q225 := eq_true q225
               have ea_ := Option.some.inj (hx223_7.symm.trans hx225_7)
               injection ea_ with ea_ en_ ec_
               subst ea_
               subst ec_
               clear en_
               have p226 : 0 ≤ (x8_5 : Int) := odx
               have q226 : x8_5 < (l0_6.length : Int) := odx
               obtain ⟨ad226, A226_7, c226_7, e226, hx226_0, hx226_1, hx226_2, hx226_3, hx226_4, hx226_5, hx226_6, hx226_7, hx226_8, hl226_7, hi226_7⟩ := at_T82 HR0_6.out x8_5 p226 q226
               have hw226_8 := hx226_8
               have hw226_7 := hx226_7
               have hw226_6 := hx226_6
               have hw226_5 := hx226_5
               have hw226_4 := hx226_4
               have hw226_3 := hx226_3
               have hw226_2 := hx226_2
               have hw226_1 := hx226_1
               have hw226_0 := hx226_0
               obtain rfl : ad223 = ad226 := (by injection e226)
               replace hx226_0 := (HB.out.cell (World.block_lt_of_cell? w _ hx226_0)).trans hx226_0
               replace hx226_1 := (HB.out.cell (World.block_lt_of_cell? w _ hx226_1)).trans hx226_1
               replace hx226_2 := (HB.out.cell (World.block_lt_of_cell? w _ hx226_2)).trans hx226_2
               replace hx226_3 := (HB.out.cell (World.block_lt_of_cell? w _ hx226_3)).trans hx226_3
               replace hx226_4 := (HB.out.cell (World.block_lt_of_cell? w _ hx226_4)).trans hx226_4
               replace hx226_5 := (HB.out.cell (World.block_lt_of_cell? w _ hx226_5)).trans hx226_5
               replace hx226_6 := (HB.out.cell (World.block_lt_of_cell? w _ hx226_6)).trans hx226_6
               replace hx226_7 := (HB.out.cell (World.block_lt_of_cell? w _ hx226_7)).trans hx226_7
               replace hx226_8 := (HB.out.cell (World.block_lt_of_cell? w _ hx226_8)).trans hx226_8
               have HR226_7 := Aside0.mk hi226_7
               have HC226_7 := Aside0.mk hl226_7
               clear hi226_7 hl226_7
               replace p226 := eq_true p226
               replace q226 := eq_true q226
               have ea_ := Option.some.inj (hx223_7.symm.trans hx226_7)
               injection ea_ with ea_ en_ ec_
               subst ea_
               subst ec_
               clear en_
               refine start_ (n := 26) (S := fun w' => w'.cell? ⟨gb212, 0, none⟩ = some (.string a0_0) ∧ w'.cell? ⟨gb212, 1, none⟩ = some (.int .i64 a0_1) ∧ w'.cell? ⟨gb212, 2, none⟩ = some (.slice A0_2 l0_2.length c0_2) ∧ w'.cell? ⟨gb212, 3, none⟩ = some (.slice A0_3 l0_3.length c0_3) ∧ w'.cell? ⟨gb212, 4, none⟩ = some (.slice A0_4 l0_4.length c0_4) ∧ w'.cell? ⟨gb212, 5, none⟩ = some (.slice A0_5 l0_5.length c0_5) ∧ w'.cell? ⟨gb212, 6, none⟩ = some (.slice (some ad223) l0_6.length c0_6) ∧ w'.cell? (ad223.add ((x8_5).toNat * 9)) = some (.string ((rd_T82 l0_6 x8_5).f0)) ∧ w'.cell? ⟨(ad223.add ((x8_5).toNat * 9)).block, (ad223.add ((x8_5).toNat * 9)).off + 1, none⟩ = some (.bool ((rd_T82 l0_6 x8_5).f1)) ∧ w'.cell? ⟨(ad223.add ((x8_5).toNat * 9)).block, (ad223.add ((x8_5).toNat * 9)).off + 2, none⟩ = some (.int .i64 ((rd_T82 l0_6 x8_5).f2)) ∧ w'.cell? ⟨(ad223.add ((x8_5).toNat * 9)).block, (ad223.add ((x8_5).toNat * 9)).off + 3, none⟩ = some (.int .i64 ((rd_T82 l0_6 x8_5).f3.f0)) ∧ w'.cell? ⟨(ad223.add ((x8_5).toNat * 9)).block, (ad223.add ((x8_5).toNat * 9)).off + 4, none⟩ = some (.int .i64 ((rd_T82 l0_6 x8_5).f3.f1)) ∧ w'.cell? ⟨(ad223.add ((x8_5).toNat * 9)).block, (ad223.add ((x8_5).toNat * 9)).off + 5, none⟩ = some (.int .i64 ((rd_T82 l0_6 x8_5).f3.f2)) ∧ w'.cell? ⟨(ad223.add ((x8_5).toNat * 9)).block, (ad223.add ((x8_5).toNat * 9)).off + 6, none⟩ = some (.int .i64 ((rd_T82 l0_6 x8_5).f3.f3)) ∧ w'.cell? ⟨(ad223.add ((x8_5).toNat * 9)).block, (ad223.add ((x8_5).toNat * 9)).off + 7, none⟩ = some (.slice A223_7 ((rd_T82 l0_6 x8_5).f3.f4).length c223_7) ∧ w'.cell? ⟨(ad223.add ((x8_5).toNat * 9)).block, (ad223.add ((x8_5).toNat * 9)).off + 8, none⟩ = some (.string ((rd_T82 l0_6 x8_5).f4)) ∧ w'.cell? (ad223.add ((x8_5).toNat * 9)) = some (.string ((rd_T82 l0_6 x8_5).f0)) ∧ w'.cell? ⟨(ad223.add ((x8_5).toNat * 9)).block, (ad223.add ((x8_5).toNat * 9)).off + 1, none⟩ = some (.bool ((rd_T82 l0_6 x8_5).f1)) ∧ w'.cell? ⟨(ad223.add ((x8_5).toNat * 9)).block, (ad223.add ((x8_5).toNat * 9)).off + 2, none⟩ = some (.int .i64 ((rd_T82 l0_6 x8_5).f2)) ∧ w'.cell? ⟨(ad223.add ((x8_5).toNat * 9)).block, (ad223.add ((x8_5).toNat * 9)).off + 3, none⟩ = some (.int .i64 ((rd_T82 l0_6 x8_5).f3.f0)) ∧ w'.cell? ⟨(ad223.add ((x8_5).toNat * 9)).block, (ad223.add ((x8_5).toNat * 9)).off + 4, none⟩ = some (.int .i64 ((rd_T82 l0_6 x8_5).f3.f1)) ∧ w'.cell? ⟨(ad223.add ((x8_5).toNat * 9)).block, (ad223.add ((x8_5).toNat * 9)).off + 5, none⟩ = some (.int .i64 ((rd_T82 l0_6 x8_5).f3.f2)) ∧ w'.cell? ⟨(ad223.add ((x8_5).toNat * 9)).block, (ad223.add ((x8_5).toNat * 9)).off + 6, none⟩ = some (.int .i64 ((rd_T82 l0_6 x8_5).f3.f3)) ∧ w'.cell? ⟨(ad223.add ((x8_5).toNat * 9)).block, (ad223.add ((x8_5).toNat * 9)).off + 7, none⟩ = some (.slice A223_7 ((rd_T82 l0_6 x8_5).f3.f4).length c223_7) ∧ w'.cell? ⟨(ad223.add ((x8_5).toNat * 9)).block, (ad223.add ((x8_5).toNat * 9)).off + 8, none⟩ = some (.string ((rd_T82 l0_6 x8_5).f4)) ∧ w'.cell? (ad223.add ((x8_5).toNat * 9)) = some (.string ((rd_T82 l0_6 x8_5).f0)) ∧ w'.cell? ⟨(ad223.add ((x8_5).toNat * 9)).block, (ad223.add ((x8_5).toNat * 9)).off + 1, none⟩ = some (.bool ((rd_T82 l0_6 x8_5).f1)) ∧ w'.cell? ⟨(ad223.add ((x8_5).toNat * 9)).block, (ad223.add ((x8_5).toNat * 9)).off + 2, none⟩ = some (.int .i64 ((rd_T82 l0_6 x8_5).f2)) ∧ w'.cell? ⟨(ad223.add ((x8_5).toNat * 9)).block, (ad223.add ((x8_5).toNat * 9)).off + 3, none⟩ = some (.int .i64 ((rd_T82 l0_6 x8_5).f3.f0)) ∧ w'.cell? ⟨(ad223.add ((x8_5).toNat * 9)).block, (ad223.add ((x8_5).toNat * 9)).off + 4, none⟩ = some (.int .i64 ((rd_T82 l0_6 x8_5).f3.f1)) ∧ w'.cell? ⟨(ad223.add ((x8_5).toNat * 9)).block, (ad223.add ((x8_5).toNat * 9)).off + 5, none⟩ = some (.int .i64 ((rd_T82 l0_6 x8_5).f3.f2)) ∧ w'.cell? ⟨(ad223.add ((x8_5).toNat * 9)).block, (ad223.add ((x8_5).toNat * 9)).off + 6, none⟩ = some (.int .i64 ((rd_T82 l0_6 x8_5).f3.f3)) ∧ w'.cell? ⟨(ad223.add ((x8_5).toNat * 9)).block, (ad223.add ((x8_5).toNat * 9)).off + 7, none⟩ = some (.slice A223_7 ((rd_T82 l0_6 x8_5).f3.f4).length c223_7) ∧ w'.cell? ⟨(ad223.add ((x8_5).toNat * 9)).block, (ad223.add ((x8_5).toNat * 9)).off + 8, none⟩ = some (.string ((rd_T82 l0_6 x8_5).f4))) (ds := []) #[false, false, false, false, false, false, false, false, false, false, false, false, false, false, false, false, false, false, false, false, false, false, false, false, false, false] (by kernel_rfl) rfl rfl ⟨(blk_cell BK212.out 0).trans rfl, (blk_cell BK212.out 1).trans rfl, (blk_cell BK212.out 2).trans rfl, (blk_cell BK212.out 3).trans rfl, (blk_cell BK212.out 4).trans rfl, (blk_cell BK212.out 5).trans rfl, (blk_cell BK212.out 6).trans rfl, ((HB.out.cell (World.block_lt_of_cell? w _ hw223_0)).trans hw223_0), ((HB.out.cell (World.block_lt_of_cell? w _ hw223_1)).trans hw223_1), ((HB.out.cell (World.block_lt_of_cell? w _ hw223_2)).trans hw223_2), ((HB.out.cell (World.block_lt_of_cell? w _ hw223_3)).trans hw223_3), ((HB.out.cell (World.block_lt_of_cell? w _ hw223_4)).trans hw223_4), ((HB.out.cell (World.block_lt_of_cell? w _ hw223_5)).trans hw223_5), ((HB.out.cell (World.block_lt_of_cell? w _ hw223_6)).trans hw223_6), ((HB.out.cell (World.block_lt_of_cell? w _ hw223_7)).trans hw223_7), ((HB.out.cell (World.block_lt_of_cell? w _ hw223_8)).trans hw223_8), ((HB.out.cell (World.block_lt_of_cell? w _ hw225_0)).trans hw225_0), ((HB.out.cell (World.block_lt_of_cell? w _ hw225_1)).trans hw225_1), ((HB.out.cell (World.block_lt_of_cell? w _ hw225_2)).trans hw225_2), ((HB.out.cell (World.block_lt_of_cell? w _ hw225_3)).trans hw225_3), ((HB.out.cell (World.block_lt_of_cell? w _ hw225_4)).trans hw225_4), ((HB.out.cell (World.block_lt_of_cell? w _ hw225_5)).trans hw225_5), ((HB.out.cell (World.block_lt_of_cell? w _ hw225_6)).trans hw225_6), ((HB.out.cell (World.block_lt_of_cell? w _ hw225_7)).trans hw225_7), ((HB.out.cell (World.block_lt_of_cell? w _ hw225_8)).trans hw225_8), ((HB.out.cell (World.block_lt_of_cell? w _ hw226_0)).trans hw226_0), ((HB.out.cell (World.block_lt_of_cell? w _ hw226_1)).trans hw226_1), ((HB.out.cell (World.block_lt_of_cell? w _ hw226_2)).trans hw226_2), ((HB.out.cell (World.block_lt_of_cell? w _ hw226_3)).trans hw226_3), ((HB.out.cell (World.block_lt_of_cell? w _ hw226_4)).trans hw226_4), ((HB.out.cell (World.block_lt_of_cell? w _ hw226_5)).trans hw226_5), ((HB.out.cell (World.block_lt_of_cell? w _ hw226_6)).trans hw226_6), ((HB.out.cell (World.block_lt_of_cell? w _ hw226_7)).trans hw226_7), ((HB.out.cell (World.block_lt_of_cell? w _ hw226_8)).trans hw226_8)⟩ (fun hHeld => ?_); refine with_tabW levylaw7_small.tab21 levylaw7_small.bits21 (fun HT_ HW_ => ?_)
               generalize wr.drew = w47 at BK212 HB HR223_7 HR225_7 HR226_7 hx223_0 hx223_1 hx223_2 hx223_3 hx223_4 hx223_5 hx223_6 hx223_7 hx223_8 hx225_0 hx225_1 hx225_2 hx225_3 hx225_4 hx225_5 hx225_6 hx225_7 hx225_8 hx226_0 hx226_1 hx226_2 hx226_3 hx226_4 hx226_5 hx226_6 hx226_7 hx226_8 hHeld ⊢
               refine pure_ (i := 0) (N := some 143) (v := ?_) (a' := ?_) #[true, false, false, false, false, false, false, false, false, false, false, false, false, false, false, false, false, false, false, false, false, false, false, false, false, false] rfl rfl (any_of HT_.out (by kernel_rfl)) (fun _ _ _ h => h) (Or.inl ⟨by rfl, ?_⟩) ?_ ?_
               rotate_left
               ·intro w'
                go_simp
                with_reducible rfl
               rotate_left
               ·simp only [Act.put, List.setIfInBounds_toArray, List.set_cons_zero, List.set_cons_succ, i64_w, i32_w]
                rfl
               refine pure_ (i := 1) (N := some 144) (v := ?_) (a' := ?_) #[true, true, false, false, false, false, false, false, false, false, false, false, false, false, false, false, false, false, false, false, false, false, false, false, false, false] rfl rfl (any_of HT_.out (by kernel_rfl)) (fun _ _ _ h => h) (Or.inl ⟨by rfl, ?_⟩) ?_ ?_
               rotate_left
               ·intro w'
                go_simp
                with_reducible rfl
               rotate_left
               ·simp only [Act.put, List.setIfInBounds_toArray, List.set_cons_zero, List.set_cons_succ, i64_w, i32_w]
                rfl
               refine pure_ (i := 3) (N := some 146) (v := ?_) (a' := ?_) #[true, true, false, true, false, false, false, false, false, false, false, false, false, false, false, false, false, false, false, false, false, false, false, false, false, false] rfl rfl (any_of HT_.out (by kernel_rfl)) (fun _ _ _ h => h) (Or.inl ⟨by rfl, ?_⟩) ?_ ?_
               rotate_left
               ·intro w'
                go_simp
                with_reducible rfl
               rotate_left
               ·simp only [Act.put, List.setIfInBounds_toArray, List.set_cons_zero, List.set_cons_succ, i64_w, i32_w]
                rfl
               refine pure_ (i := 9) (N := some 152) (v := ?_) (a' := ?_) #[true, true, false, true, false, false, false, false, false, true, false, false, false, false, false, false, false, false, false, false, false, false, false, false, false, false] rfl rfl (any_of HT_.out (by kernel_rfl)) (fun _ _ _ h => h) (Or.inl ⟨by rfl, ?_⟩) ?_ ?_
               rotate_left
               ·intro w'
                go_simp
                with_reducible rfl
               rotate_left
               ·simp only [Act.put, List.setIfInBounds_toArray, List.set_cons_zero, List.set_cons_succ, i64_w, i32_w]
                rfl
               refine pure_ (i := 11) (N := some 154) (v := ?_) (a' := ?_) #[true, true, false, true, false, false, false, false, false, true, false, true, false, false, false, false, false, false, false, false, false, false, false, false, false, false] rfl rfl (any_of HT_.out (by kernel_rfl)) (fun _ _ _ h => h) (Or.inl ⟨by rfl, ?_⟩) ?_ ?_
               rotate_left
               ·intro w'
                go_simp
                with_reducible rfl
               rotate_left
               ·simp only [Act.put, List.setIfInBounds_toArray, List.set_cons_zero, List.set_cons_succ, i64_w, i32_w]
                rfl
               refine pure_ (i := 17) (N := some 160) (v := ?_) (a' := ?_) #[true, true, false, true, false, false, false, false, false, true, false, true, false, false, false, false, false, true, false, false, false, false, false, false, false, false] rfl rfl (any_of HT_.out (by kernel_rfl)) (fun _ _ _ h => h) (Or.inl ⟨by rfl, ?_⟩) ?_ ?_
               rotate_left
               ·intro w'
                go_simp
                with_reducible rfl
               rotate_left
               ·simp only [Act.put, List.setIfInBounds_toArray, List.set_cons_zero, List.set_cons_succ, i64_w, i32_w]
                rfl
               refine pure_ (i := 19) (N := some 162) (v := ?_) (a' := ?_) #[true, true, false, true, false, false, false, false, false, true, false, true, false, false, false, false, false, true, false, true, false, false, false, false, false, false] rfl rfl (any_of HT_.out (by kernel_rfl)) (fun _ _ _ h => h) (Or.inl ⟨by rfl, ?_⟩) ?_ ?_
               rotate_left
               ·intro w'
                go_simp
                with_reducible rfl
               rotate_left
               ·simp only [Act.put, List.setIfInBounds_toArray, List.set_cons_zero, List.set_cons_succ, i64_w, i32_w]
                rfl
               refine take_ (i := 2) (N := some 145) (v := ?_) (a' := ?_) #[true, true, true, true, false, false, false, false, false, true, false, true, false, false, false, false, false, true, false, true, false, false, false, false, false, false] rfl rfl (take_ofW HT_.out HW_.out (by kernel_rfl)) (fun _ _ _ h => h) (Or.inl ⟨by rfl, ?_⟩) hHeld ?_ ?_
               rotate_left
               ·rintro w' ⟨s0, s1, s2, s3, s4, s5, s6, s7, s8, s9, s10, s11, s12, s13, s14, s15, s16, s17, s18, s19, s20, s21, s22, s23, s24, s25, s26, s27, s28, s29, s30, s31, s32, s33⟩
                go_simp
                with_reducible rfl
               rotate_left
               ·simp only [Act.put, List.setIfInBounds_toArray, List.set_cons_zero, List.set_cons_succ, i64_w, i32_w]
                rfl
               refine pure_ (i := 4) (N := some 147) (v := ?_) (a' := ?_) #[true, true, true, true, true, false, false, false, false, true, false, true, false, false, false, false, false, true, false, true, false, false, false, false, false, false] rfl rfl (any_of HT_.out (by kernel_rfl)) (fun _ _ _ h => h) (Or.inl ⟨by rfl, ?_⟩) ?_ ?_
               rotate_left
               ·intro w'
                go_simp
                with_reducible rfl
               rotate_left
               ·simp only [Act.put, List.setIfInBounds_toArray, List.set_cons_zero, List.set_cons_succ, i64_w, i32_w]
                rfl
               refine pure_ (i := 5) (N := some 148) (v := ?_) (a' := ?_) #[true, true, true, true, true, true, false, false, false, true, false, true, false, false, false, false, false, true, false, true, false, false, false, false, false, false] rfl rfl (any_of HT_.out (by kernel_rfl)) (fun _ _ _ h => h) (Or.inl ⟨by rfl, ?_⟩) ?_ ?_
               rotate_left
               ·intro w'
                go_simp
                with_reducible rfl
               rotate_left
               ·simp only [Act.put, List.setIfInBounds_toArray, List.set_cons_zero, List.set_cons_succ, i64_w, i32_w]
                rfl
               refine take_ (i := 6) (N := some 149) (v := ?_) (a' := ?_) #[true, true, true, true, true, true, true, false, false, true, false, true, false, false, false, false, false, true, false, true, false, false, false, false, false, false] rfl rfl (take_ofW HT_.out HW_.out (by kernel_rfl)) (fun _ _ _ h => h) (Or.inl ⟨by rfl, ?_⟩) hHeld ?_ ?_
               rotate_left
               ·rintro w' ⟨s0, s1, s2, s3, s4, s5, s6, s7, s8, s9, s10, s11, s12, s13, s14, s15, s16, s17, s18, s19, s20, s21, s22, s23, s24, s25, s26, s27, s28, s29, s30, s31, s32, s33⟩
                go_simp
                with_reducible rfl
               rotate_left
               ·simp only [Act.put, List.setIfInBounds_toArray, List.set_cons_zero, List.set_cons_succ, i64_w, i32_w]
                rfl
               refine take_ (i := 10) (N := some 153) (v := ?_) (a' := ?_) #[true, true, true, true, true, true, true, false, false, true, true, true, false, false, false, false, false, true, false, true, false, false, false, false, false, false] rfl rfl (take_ofW HT_.out HW_.out (by kernel_rfl)) (fun _ _ _ h => h) (Or.inl ⟨by rfl, ?_⟩) hHeld ?_ ?_
               rotate_left
               ·rintro w' ⟨s0, s1, s2, s3, s4, s5, s6, s7, s8, s9, s10, s11, s12, s13, s14, s15, s16, s17, s18, s19, s20, s21, s22, s23, s24, s25, s26, s27, s28, s29, s30, s31, s32, s33⟩
                go_simp
                with_reducible rfl
               rotate_left
               ·simp only [Act.put, List.setIfInBounds_toArray, List.set_cons_zero, List.set_cons_succ, i64_w, i32_w]
                rfl
               refine pure_ (i := 12) (N := some 155) (v := ?_) (a' := ?_) #[true, true, true, true, true, true, true, false, false, true, true, true, true, false, false, false, false, true, false, true, false, false, false, false, false, false] rfl rfl (any_of HT_.out (by kernel_rfl)) (fun _ _ _ h => h) (Or.inl ⟨by rfl, ?_⟩) ?_ ?_
               rotate_left
               ·intro w'
                go_simp
                with_reducible rfl
               rotate_left
               ·simp only [Act.put, List.setIfInBounds_toArray, List.set_cons_zero, List.set_cons_succ, i64_w, i32_w]
                rfl
               refine pure_ (i := 13) (N := some 156) (v := ?_) (a' := ?_) #[true, true, true, true, true, true, true, false, false, true, true, true, true, true, false, false, false, true, false, true, false, false, false, false, false, false] rfl rfl (any_of HT_.out (by kernel_rfl)) (fun _ _ _ h => h) (Or.inl ⟨by rfl, ?_⟩) ?_ ?_
               rotate_left
               ·intro w'
                go_simp
                with_reducible rfl
               rotate_left
               ·simp only [Act.put, List.setIfInBounds_toArray, List.set_cons_zero, List.set_cons_succ, i64_w, i32_w]
                rfl
               refine take_ (i := 14) (N := some 157) (v := ?_) (a' := ?_) #[true, true, true, true, true, true, true, false, false, true, true, true, true, true, true, false, false, true, false, true, false, false, false, false, false, false] rfl rfl (take_ofW HT_.out HW_.out (by kernel_rfl)) (fun _ _ _ h => h) (Or.inl ⟨by rfl, ?_⟩) hHeld ?_ ?_
               rotate_left
               ·rintro w' ⟨s0, s1, s2, s3, s4, s5, s6, s7, s8, s9, s10, s11, s12, s13, s14, s15, s16, s17, s18, s19, s20, s21, s22, s23, s24, s25, s26, s27, s28, s29, s30, s31, s32, s33⟩
                go_simp
                with_reducible rfl
               rotate_left
               ·simp only [Act.put, List.setIfInBounds_toArray, List.set_cons_zero, List.set_cons_succ, i64_w, i32_w]
                rfl
               refine pure_ (i := 15) (N := some 158) (v := ?_) (a' := ?_) #[true, true, true, true, true, true, true, false, false, true, true, true, true, true, true, true, false, true, false, true, false, false, false, false, false, false] rfl rfl (any_of HT_.out (by kernel_rfl)) (fun _ _ _ h => h) (Or.inl ⟨by rfl, ?_⟩) ?_ ?_
               rotate_left
               ·intro w'
                go_simp
                with_reducible rfl
               rotate_left
               ·simp only [Act.put, List.setIfInBounds_toArray, List.set_cons_zero, List.set_cons_succ, i64_w, i32_w]
                rfl
               refine take_ (i := 18) (N := some 161) (v := ?_) (a' := ?_) #[true, true, true, true, true, true, true, false, false, true, true, true, true, true, true, true, false, true, true, true, false, false, false, false, false, false] rfl rfl (take_ofW HT_.out HW_.out (by kernel_rfl)) (fun _ _ _ h => h) (Or.inl ⟨by rfl, ?_⟩) hHeld ?_ ?_
               rotate_left
               ·rintro w' ⟨s0, s1, s2, s3, s4, s5, s6, s7, s8, s9, s10, s11, s12, s13, s14, s15, s16, s17, s18, s19, s20, s21, s22, s23, s24, s25, s26, s27, s28, s29, s30, s31, s32, s33⟩
                go_simp
                with_reducible rfl
               rotate_left
               ·simp only [Act.put, List.setIfInBounds_toArray, List.set_cons_zero, List.set_cons_succ, i64_w, i32_w]
                rfl
               refine pure_ (i := 20) (N := some 163) (v := ?_) (a' := ?_) #[true, true, true, true, true, true, true, false, false, true, true, true, true, true, true, true, false, true, true, true, true, false, false, false, false, false] rfl rfl (any_of HT_.out (by kernel_rfl)) (fun _ _ _ h => h) (Or.inl ⟨by rfl, ?_⟩) ?_ ?_
               rotate_left
               ·intro w'
                go_simp
                with_reducible rfl
               rotate_left
               ·simp only [Act.put, List.setIfInBounds_toArray, List.set_cons_zero, List.set_cons_succ, i64_w, i32_w]
                rfl
               refine pure_ (i := 21) (N := some 164) (v := ?_) (a' := ?_) #[true, true, true, true, true, true, true, false, false, true, true, true, true, true, true, true, false, true, true, true, true, true, false, false, false, false] rfl rfl (any_of HT_.out (by kernel_rfl)) (fun _ _ _ h => h) (Or.inl ⟨by rfl, ?_⟩) ?_ ?_
               rotate_left
               ·intro w'
                go_simp
                with_reducible rfl
               rotate_left
               ·simp only [Act.put, List.setIfInBounds_toArray, List.set_cons_zero, List.set_cons_succ, i64_w, i32_w]
                rfl
               refine take_ (i := 22) (N := some 165) (v := ?_) (a' := ?_) #[true, true, true, true, true, true, true, false, false, true, true, true, true, true, true, true, false, true, true, true, true, true, true, false, false, false] rfl rfl (take_ofW HT_.out HW_.out (by kernel_rfl)) (fun _ _ _ h => h) (Or.inl ⟨by rfl, ?_⟩) hHeld ?_ ?_
               rotate_left
               ·rintro w' ⟨s0, s1, s2, s3, s4, s5, s6, s7, s8, s9, s10, s11, s12, s13, s14, s15, s16, s17, s18, s19, s20, s21, s22, s23, s24, s25, s26, s27, s28, s29, s30, s31, s32, s33⟩
                go_simp
                with_reducible rfl
               rotate_left
               ·simp only [Act.put, List.setIfInBounds_toArray, List.set_cons_zero, List.set_cons_succ, i64_w, i32_w]
                rfl
               refine pure_ (i := 23) (N := some 166) (v := ?_) (a' := ?_) #[true, true, true, true, true, true, true, false, false, true, true, true, true, true, true, true, false, true, true, true, true, true, true, true, false, false] rfl rfl (any_of HT_.out (by kernel_rfl)) (fun _ _ _ h => h) (Or.inl ⟨by rfl, ?_⟩) ?_ ?_
               rotate_left
               ·intro w'
                go_simp
                with_reducible rfl
               rotate_left
               ·simp only [Act.put, List.setIfInBounds_toArray, List.set_cons_zero, List.set_cons_succ, i64_w, i32_w]
                rfl
               refine one_ (i := 7) (N := some 150) #[true, true, true, true, true, true, true, true, false, true, true, true, true, true, true, true, false, true, true, true, true, true, true, true, false, false] rfl rfl (one_of HT_.out (by kernel_rfl)) (by decide) (fun K hK => ?_)
               refine goes_ Try.func27 (by kernel_rfl) rfl #[.agg #[.int .i64 ((rd_T82 l0_6 x8_5).f3.f0), .int .i64 ((rd_T82 l0_6 x8_5).f3.f1), .int .i64 ((rd_T82 l0_6 x8_5).f3.f2), .int .i64 ((rd_T82 l0_6 x8_5).f3.f3), .slice A223_7 ((rd_T82 l0_6 x8_5).f3.f4).length c223_7], .int .i64 32768] (by rfl) rfl rfl agx ?_
               with_reducible refine (levylaw7_nodes.calls k5 ((rd_T82 l0_6 x8_5).f3.f0) ((rd_T82 l0_6 x8_5).f3.f1) ((rd_T82 l0_6 x8_5).f3.f2) ((rd_T82 l0_6 x8_5).f3.f3) _ _ ((rd_T82 l0_6 x8_5).f3.f4) 32768 t224 _ ?side1 ?side2 A45.out).mono ?_
               (case side1 => repeat (first | exact (Kd.C_below HR223_7.out HB.out) | (with_reducible refine Kd.C_alloc ?_ _) | (with_reducible refine Kd.C_drewN ?_ _) | (with_reducible refine Kd.C_drew ?_)))
               (case side2 => exact HC223_7.out)
               rintro e w48 ⟨rfl, hb⟩
               refine ⟨_, rfl, ?_⟩
               have n0_ := Aside0.mk (blk_below (g := gb212) (o := .cells #[.string a0_0, .int .i64 a0_1, .slice A0_2 l0_2.length c0_2, .slice A0_3 l0_3.length c0_3, .slice A0_4 l0_4.length c0_4, .slice A0_5 l0_5.length c0_5, .slice (some ad223) l0_6.length c0_6] 33 (0, 0)) bkx hb)
               have n1_ := Aside0.mk (below_step blx hb)
               clear BK212
               clear HB
               have BK212 := n0_
               have HB := n1_
               clear n0_ n1_
               (try clear hb)
               (try clear hb2)
               (try clear hk)
               (try clear hi)
               refine hK.out _ _ ⟨(blk_cell BK212.out 0).trans rfl, (blk_cell BK212.out 1).trans rfl, (blk_cell BK212.out 2).trans rfl, (blk_cell BK212.out 3).trans rfl, (blk_cell BK212.out 4).trans rfl, (blk_cell BK212.out 5).trans rfl, (blk_cell BK212.out 6).trans rfl, ((HB.out.cell (World.block_lt_of_cell? w _ hw223_0)).trans hw223_0), ((HB.out.cell (World.block_lt_of_cell? w _ hw223_1)).trans hw223_1), ((HB.out.cell (World.block_lt_of_cell? w _ hw223_2)).trans hw223_2), ((HB.out.cell (World.block_lt_of_cell? w _ hw223_3)).trans hw223_3), ((HB.out.cell (World.block_lt_of_cell? w _ hw223_4)).trans hw223_4), ((HB.out.cell (World.block_lt_of_cell? w _ hw223_5)).trans hw223_5), ((HB.out.cell (World.block_lt_of_cell? w _ hw223_6)).trans hw223_6), ((HB.out.cell (World.block_lt_of_cell? w _ hw223_7)).trans hw223_7), ((HB.out.cell (World.block_lt_of_cell? w _ hw223_8)).trans hw223_8), ((HB.out.cell (World.block_lt_of_cell? w _ hw225_0)).trans hw225_0), ((HB.out.cell (World.block_lt_of_cell? w _ hw225_1)).trans hw225_1), ((HB.out.cell (World.block_lt_of_cell? w _ hw225_2)).trans hw225_2), ((HB.out.cell (World.block_lt_of_cell? w _ hw225_3)).trans hw225_3), ((HB.out.cell (World.block_lt_of_cell? w _ hw225_4)).trans hw225_4), ((HB.out.cell (World.block_lt_of_cell? w _ hw225_5)).trans hw225_5), ((HB.out.cell (World.block_lt_of_cell? w _ hw225_6)).trans hw225_6), ((HB.out.cell (World.block_lt_of_cell? w _ hw225_7)).trans hw225_7), ((HB.out.cell (World.block_lt_of_cell? w _ hw225_8)).trans hw225_8), ((HB.out.cell (World.block_lt_of_cell? w _ hw226_0)).trans hw226_0), ((HB.out.cell (World.block_lt_of_cell? w _ hw226_1)).trans hw226_1), ((HB.out.cell (World.block_lt_of_cell? w _ hw226_2)).trans hw226_2), ((HB.out.cell (World.block_lt_of_cell? w _ hw226_3)).trans hw226_3), ((HB.out.cell (World.block_lt_of_cell? w _ hw226_4)).trans hw226_4), ((HB.out.cell (World.block_lt_of_cell? w _ hw226_5)).trans hw226_5), ((HB.out.cell (World.block_lt_of_cell? w _ hw226_6)).trans hw226_6), ((HB.out.cell (World.block_lt_of_cell? w _ hw226_7)).trans hw226_7), ((HB.out.cell (World.block_lt_of_cell? w _ hw226_8)).trans hw226_8)⟩ (fun hHeld => ?_)
               clear hK K
               refine norm_ (a' := ?_) ?_ ?_
               rotate_left
               ·show Act.put _ (some 150) _ = _
                simp only [Act.put, List.setIfInBounds_toArray, List.set_cons_zero, List.set_cons_succ, i64_w, i32_w]
                rfl
               refine pure_ (i := 8) (N := some 151) (v := ?_) (a' := ?_) #[true, true, true, true, true, true, true, true, true, true, true, true, true, true, true, true, false, true, true, true, true, true, true, true, false, false] rfl rfl (any_of HT_.out (by kernel_rfl)) (fun _ _ _ h => h) (Or.inl ⟨by rfl, ?_⟩) ?_ ?_
               rotate_left
               ·intro w'
                go_simp
                with_reducible rfl
               rotate_left
               ·simp only [Act.put, List.setIfInBounds_toArray, List.set_cons_zero, List.set_cons_succ, i64_w, i32_w]
                rfl
               refine pure_ (i := 16) (N := some 159) (v := ?_) (a' := ?_) #[true, true, true, true, true, true, true, true, true, true, true, true, true, true, true, true, true, true, true, true, true, true, true, true, false, false] rfl rfl (any_of HT_.out (by kernel_rfl)) (fun _ _ _ h => h) (Or.inl ⟨by rfl, ?_⟩) ?_ ?_
               rotate_left
               ·intro w'
                go_simp
                with_reducible rfl
               rotate_left
               ·simp only [Act.put, List.setIfInBounds_toArray, List.set_cons_zero, List.set_cons_succ, i64_w, i32_w]
                rfl
               refine pure_ (i := 24) (N := some 167) (v := ?_) (a' := ?_) #[true, true, true, true, true, true, true, true, true, true, true, true, true, true, true, true, true, true, true, true, true, true, true, true, true, false] rfl rfl (any_of HT_.out (by kernel_rfl)) (fun _ _ _ h => h) (Or.inl ⟨by rfl, ?_⟩) ?_ ?_
               rotate_left
               ·intro w'
                go_simp
                with_reducible rfl
               rotate_left
               ·simp only [Act.put, List.setIfInBounds_toArray, List.set_cons_zero, List.set_cons_succ, i64_w, i32_w]
                rfl
               refine pure_ (i := 25) (N := some 3) (v := ?_) (a' := ?_) #[true, true, true, true, true, true, true, true, true, true, true, true, true, true, true, true, true, true, true, true, true, true, true, true, true, true] rfl rfl (any_of HT_.out (by kernel_rfl)) (fun _ _ _ h => h) (Or.inl ⟨by rfl, ?_⟩) ?_ ?_
               rotate_left
               ·intro w'
                go_simp
                with_reducible rfl
               rotate_left
               ·simp only [Act.put, List.setIfInBounds_toArray, List.set_cons_zero, List.set_cons_succ, i64_w, i32_w]
                rfl
               refine done_ (done_of HT_.out (by kernel_rfl)) ?_
               try go_wp2
               go_roundg k5
               case measure => have := HJ1.out; have := HJ10.out; have := HK3.out; have := HJ17.out; have := HK5.out; omega
               case rel => exact ⟨(wrap64 ((wrap64 ((wrap64 (x3_5 + t224)) + (((rd_T82 l0_6 x8_5).f0).size : Int))) + (((rd_T82 l0_6 x8_5).f4).size : Int))), (wrap64 (x8_5 + 1)), (by first | rfl | (simp; done) | (simp [*]; done)), (by first | rfl | (simp; done) | (simp [*]; done)), H', ⟨by have := HJ1.out; have := HJ10.out; have := HK3.out; have := HJ17.out; have := HK5.out; omega⟩, ⟨bkx⟩, ⟨blx⟩⟩
              ·rw [if_neg c44] at H
               exact absurd H (by simp)
             ·rw [if_neg c43] at H
              have c43b0 : decide (x3_5 ≤ 32768) = false := decide_eq_false c43
              clear c43
              obtain rfl := Option.some.inj H
              have hcz49_0 : wr.cell? ⟨gb212, 0, none⟩ = some (.string a0_0) := (blk_cell BK212.out 0).trans rfl
              have hcz49_1 : wr.cell? ⟨gb212, 1, none⟩ = some (.int .i64 a0_1) := (blk_cell BK212.out 1).trans rfl
              have hcz49_2 : wr.cell? ⟨gb212, 2, none⟩ = some (.slice A0_2 l0_2.length c0_2) := (blk_cell BK212.out 2).trans rfl
              have hcz49_3 : wr.cell? ⟨gb212, 3, none⟩ = some (.slice A0_3 l0_3.length c0_3) := (blk_cell BK212.out 3).trans rfl
              have hcz49_4 : wr.cell? ⟨gb212, 4, none⟩ = some (.slice A0_4 l0_4.length c0_4) := (blk_cell BK212.out 4).trans rfl
              have hcz49_5 : wr.cell? ⟨gb212, 5, none⟩ = some (.slice A0_5 l0_5.length c0_5) := (blk_cell BK212.out 5).trans rfl
              have hcz49_6 : wr.cell? ⟨gb212, 6, none⟩ = some (.slice A0_6 l0_6.length c0_6) := (blk_cell BK212.out 6).trans rfl
              have hfz49_0 := blk_frozen BK212.out 0
              have hfz49_1 := blk_frozen BK212.out 1
              have hfz49_2 := blk_frozen BK212.out 2
              have hfz49_3 := blk_frozen BK212.out 3
              have hfz49_4 := blk_frozen BK212.out 4
              have hfz49_5 := blk_frozen BK212.out 5
              have hfz49_6 := blk_frozen BK212.out 6
              go_wp2
              go_ret
              exact ⟨by first | rfl | (simp [errW_none, errW_some] <;> rfl) | (simp [*, errW_none, errW_some] <;> rfl), blx⟩
            ·rw [if_neg c42] at H
             have c42b0 : decide (x8_5 < (l0_6.length : Int)) = false := decide_eq_false c42
             clear c42
             obtain rfl := Option.some.inj H
             have hcz50_0 : wr.cell? ⟨gb212, 0, none⟩ = some (.string a0_0) := (blk_cell BK212.out 0).trans rfl
             have hcz50_1 : wr.cell? ⟨gb212, 1, none⟩ = some (.int .i64 a0_1) := (blk_cell BK212.out 1).trans rfl
             have hcz50_2 : wr.cell? ⟨gb212, 2, none⟩ = some (.slice A0_2 l0_2.length c0_2) := (blk_cell BK212.out 2).trans rfl
             have hcz50_3 : wr.cell? ⟨gb212, 3, none⟩ = some (.slice A0_3 l0_3.length c0_3) := (blk_cell BK212.out 3).trans rfl
             have hcz50_4 : wr.cell? ⟨gb212, 4, none⟩ = some (.slice A0_4 l0_4.length c0_4) := (blk_cell BK212.out 4).trans rfl
             have hcz50_5 : wr.cell? ⟨gb212, 5, none⟩ = some (.slice A0_5 l0_5.length c0_5) := (blk_cell BK212.out 5).trans rfl
             have hcz50_6 : wr.cell? ⟨gb212, 6, none⟩ = some (.slice A0_6 l0_6.length c0_6) := (blk_cell BK212.out 6).trans rfl
             have hfz50_0 := blk_frozen BK212.out 0
             have hfz50_1 := blk_frozen BK212.out 1
             have hfz50_2 := blk_frozen BK212.out 2
             have hfz50_3 := blk_frozen BK212.out 3
             have hfz50_4 := blk_frozen BK212.out 4
             have hfz50_5 := blk_frozen BK212.out 5
             have hfz50_6 := blk_frozen BK212.out 6
             go_wp2
             go_ret
             exact ⟨by first | rfl | (simp [errW_none, errW_some] <;> rfl) | (simp [*, errW_none, errW_some] <;> rfl), blx⟩
end Go.Proofs.Ytpbdkkahodaloaa.PS
end
