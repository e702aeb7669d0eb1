/- The plain law of MoneyClamps. -/
import Derived.Test.YtnjhjaifmgjljaaDoorPMx0
import Derived.Test.YtnjhjaifmgjljaaDoorPMx25
import Derived.Test.YtnjhjaifmgjljaaDoorPMx26
import Derived.Test.YtnjhjaifmgjljaaDoorPMx27
import Derived.Test.YtnjhjaifmgjljaaDoorPMx28
import Derived.Test.YtnjhjaifmgjljaaDoorPMx29
import Derived.Test.YtnjhjaifmgjljaaDoorPMx30
import Derived.Test.YtnjhjaifmgjljaaDoorPMx31
import Derived.Test.YtnjhjaifmgjljaaDoorQe
namespace Go.Proofs.YtnjhjaifmgjljaaDoor.Pure
open Go.RowKit Go.Proofs.YtnjhjaifmgjljaaDoor.PM Go.Proofs.YtnjhjaifmgjljaaDoor.Q Go.Proofs.YtnjhjaifmgjljaaDoorW.PrintWords Go.Proofs.YtnjhjaifmgjljaaDoorW.PrintLast Go.Proofs.YtnjhjaifmgjljaaDoorW.PrintMore
theorem min_is (k : Nat) (hk : 12 < k) (a b c d : Int) : money_Min.f k a b c d = some (chosenS 2 [⟨a, b⟩, ⟨c, d⟩] (mn b d)) ∧ levyref1_Min.f k a b c d = some (chosenS 2 [⟨a, b⟩, ⟨c, d⟩] (mn b d)) :=
  ⟨sides 2 (by simp) ⟨a, b⟩ [⟨c, d⟩] (by simp) _ k hk, ref_side 2 (by simp) ⟨a, b⟩ [⟨c, d⟩] (by simp) _ k hk⟩
theorem max_is (k : Nat) (hk : 12 < k) (a b c d : Int) : money_Max.f k a b c d = some (chosenS 2 [⟨a, b⟩, ⟨c, d⟩] (mx b d)) ∧ levyref1_Max.f k a b c d = some (chosenS 2 [⟨a, b⟩, ⟨c, d⟩] (mx b d)) :=
  ⟨sides 2 (by simp) ⟨a, b⟩ [⟨c, d⟩] (by simp) _ k hk, ref_side 2 (by simp) ⟨a, b⟩ [⟨c, d⟩] (by simp) _ k hk⟩
def clampN (b d f : Int) : Int := if b < d then d else if b > f then f else b
theorem ref_clamp (k : Nat) (hk : 12 < k) (a b c d e f : Int) : levyref1_Clamp.f k a b c d e f = some (chosenS 2 [⟨a, b⟩, ⟨c, d⟩, ⟨e, f⟩] (clampN b d f)) := by
  have h := fun n => ref_side 2 (by simp) ⟨a, b⟩ [⟨c, d⟩, ⟨e, f⟩] (by simp) n k hk
  have e2 : listed 2 = [1, 2, 4] := rfl
  rw [e2] at h
  unfold levyref1_Clamp.f clampN
  split
  · exact h _
  · split <;> exact h _
theorem clamp_is (k : Nat) (hk : 12 < k) (a b c d e f : Int) : money_Clamp.f k a b c d e f = some (chosenS 2 [⟨a, b⟩, ⟨c, d⟩, ⟨e, f⟩] (clampN b d f)) := by
  unfold money_Clamp.f
  rw [alike_is 2 (by simp) _ (by simp) k (by simp; omega)]
  simp only [Option.bind_some, alikeS, chosenS]
  cases hf : flt [⟨a, b⟩, ⟨c, d⟩, ⟨e, f⟩] with
  | some v => simp
  | none =>
    have hm := flt_none hf
    have m0 := (hm ⟨a, b⟩ (by simp)).2.2
    have m1 := (hm ⟨c, d⟩ (by simp)).2.2
    have m2 := (hm ⟨e, f⟩ (by simp)).2.2
    have e0 : (rd_T23 [(⟨a, b⟩ : S23), ⟨c, d⟩, ⟨e, f⟩] 0).f0 = a := rfl
    simp only [e0]
    by_cases hs : same 2 a [⟨a, b⟩, ⟨c, d⟩, ⟨e, f⟩] = true
    · have hs' := hs
      simp only [same, List.all_cons, List.all_nil, Bool.and_true, Bool.and_eq_true, beq_iff_eq] at hs'
      obtain ⟨_, ⟨rfl, _⟩, rfl, _⟩ := hs'
      rw [if_pos hs, if_pos rfl, if_pos hs]
      unfold clampN boundS
      simp only at m0 m1 m2
      split
      · first | rfl | rw [if_pos m1]
      · split
        · first | rfl | rw [if_pos m2]
        · first | rfl | rw [if_pos m0]
    · rw [if_neg hs, if_neg (by simp), if_neg hs]
theorem MoneyClamps (x0 x1 x2 : S23) : ∃ k, levylaw1_MoneyClamps.f k x0.f0 x0.f1 x1.f0 x1.f1 x2.f0 x2.f1 = some true := by
  refine ⟨20, ?_⟩
  unfold levylaw1_MoneyClamps.f
  rw [(min_is 20 (by decide) _ _ _ _).1, (min_is 20 (by decide) _ _ _ _).2, (max_is 20 (by decide) _ _ _ _).1, (max_is 20 (by decide) _ _ _ _).2, clamp_is 20 (by decide), ref_clamp 20 (by decide)]
  simp only [Option.bind_some, same_pair, if_true]
end Go.Proofs.YtnjhjaifmgjljaaDoor.Pure
