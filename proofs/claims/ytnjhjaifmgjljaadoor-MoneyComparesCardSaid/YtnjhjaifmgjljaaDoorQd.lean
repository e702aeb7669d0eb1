/- The plain law of MoneyCompares. -/
import Derived.Test.YtnjhjaifmgjljaaDoorPMx0
import Derived.Test.YtnjhjaifmgjljaaDoorPMx7
import Derived.Test.YtnjhjaifmgjljaaDoorPMx12
import Derived.Test.YtnjhjaifmgjljaaDoorPMx32
import Derived.Test.YtnjhjaifmgjljaaDoorPMx33
import Derived.Test.YtnjhjaifmgjljaaDoorPMx34
import Derived.Test.YtnjhjaifmgjljaaDoorQe
namespace Go.Proofs.YtnjhjaifmgjljaaDoor.Pure
open Go.RowKit Go.Proofs.YtnjhjaifmgjljaaDoor.PM Go.Proofs.YtnjhjaifmgjljaaDoor.Q Go.Proofs.YtnjhjaifmgjljaaDoorW.PrintWords Go.Proofs.YtnjhjaifmgjljaaDoorW.PrintLast Go.Proofs.YtnjhjaifmgjljaaDoorW.PrintMore
def flag (op b d : Int) : Int × Int :=
  if op = 25 then (if b = d then (3, 1) else (3, 0)) else if op = 26 then (if b = d then (3, 0) else (3, 1)) else if op = 27 then (if b < d then (3, 1) else (3, 0))
  else if op = 28 then (if b ≤ d then (3, 1) else (3, 0)) else if op = 29 then (if b > d then (3, 1) else (3, 0)) else if op = 30 then (if b ≥ d then (3, 1) else (3, 0)) else (6, 5)
def compareS (op : Int) (l : List S23) (b d : Int) : Int × Int :=
  match flt l with | some v => v | none => if same (if op = 25 ∨ op = 26 then 4 else 2) (rd_T23 l 0).f0 l then flag op b d else (6, 5)
theorem money_j1 (k : Nat) (hk : 12 < k) (op call : Int) (hc : call = 1 ∨ call = 2 ∨ call = 4) (hcall : call = if op = 25 ∨ op = 26 then 4 else 2) (a b c d : Int) :
    money_Compare.j1 (k + 1) op call a b c d = some (compareS op [⟨a, b⟩, ⟨c, d⟩] b d) := by
  simp only [money_Compare.j1]
  rw [alike_is call hc _ (by simp) k (by simp; omega)]
  simp only [Option.bind_some, alikeS, compareS, ← hcall]
  cases hf : flt [⟨a, b⟩, ⟨c, d⟩] with
  | some v => simp
  | none =>
    by_cases hs : same call (rd_T23 [(⟨a, b⟩ : S23), ⟨c, d⟩] 0).f0 [⟨a, b⟩, ⟨c, d⟩] = true
    · rw [if_pos hs, if_pos rfl, if_pos hs]
      simp only [money_fault.f, Option.bind_some, flag]
      repeat' split
      all_goals rfl
    · rw [if_neg hs, if_neg (by simp), if_neg hs]
theorem compare_is (k : Nat) (hk : 14 < k) (op a b c d : Int) : money_Compare.f k op a b c d = some (compareS op [⟨a, b⟩, ⟨c, d⟩] b d) := by
  obtain ⟨m, rfl⟩ : ∃ m, k = m + 1 + 1 := ⟨k - 2, by omega⟩
  unfold money_Compare.f
  by_cases h5 : op = 25
  · rw [if_pos h5]
    simp only [money_Compare.j0, if_true]
    exact money_j1 m (by omega) op 4 (by simp) (by simp [h5]) a b c d
  · rw [if_neg h5]
    simp only [money_Compare.j0]
    by_cases h6 : op = 26
    · rw [if_pos (by simp [h6])]
      exact money_j1 m (by omega) op 4 (by simp) (by simp [h6]) a b c d
    · rw [if_neg (by simp [h6])]
      exact money_j1 m (by omega) op 2 (by simp) (by simp [h5, h6]) a b c d
theorem ref_j0 (k : Nat) (hk : 0 < k) (op a b c d : Int) (h : 25 ≤ op ∧ op ≤ 30) : levyref1_Compare.j0 k op false a b c d = some (flag op b d) := by
  obtain ⟨m, rfl⟩ : ∃ m, k = m + 1 := ⟨k - 1, by omega⟩
  simp only [levyref1_Compare.j0, flag]
  rw [if_neg (by simp)]
  by_cases h1 : op = 25
  · rw [if_pos h1, if_pos h1]; split <;> rfl
  · rw [if_neg h1, if_neg h1]
    by_cases h2 : op = 26
    · rw [if_pos h2, if_pos h2]; split <;> rfl
    · rw [if_neg h2, if_neg h2]
      by_cases h3 : op = 27
      · rw [if_pos h3, if_pos h3]; split <;> rfl
      · rw [if_neg h3, if_neg h3]
        by_cases h4 : op = 28
        · rw [if_pos h4, if_pos h4]; split <;> rfl
        · rw [if_neg h4, if_neg h4]
          by_cases h5 : op = 29
          · rw [if_pos h5, if_pos h5]; split <;> rfl
          · have h6 : op = 30 := by omega
            rw [if_neg h5, if_neg h5, if_pos h6, if_pos h6]; split <;> rfl
theorem ref_j0_bad (k : Nat) (hk : 0 < k) (op a b c d : Int) : levyref1_Compare.j0 k op true a b c d = some (6, 5) := by
  obtain ⟨m, rfl⟩ : ∃ m, k = m + 1 := ⟨k - 1, by omega⟩
  simp only [levyref1_Compare.j0, if_true, levyref1_bad.f, Option.bind_some]
theorem ref_j0_b (k : Nat) (hk : 0 < k) (op a b c d : Int) (h : 25 ≤ op ∧ op ≤ 30) (t : Bool) : levyref1_Compare.j0 k op (!t) a b c d = some (if t = true then flag op b d else (6, 5)) := by
  cases t
  · exact ref_j0_bad k hk op a b c d
  · exact ref_j0 k hk op a b c d h
theorem flag_out (op b d : Int) (h : ¬ (25 ≤ op ∧ op ≤ 30)) : flag op b d = (6, 5) := by
  unfold flag
  rw [if_neg (by omega), if_neg (by omega), if_neg (by omega), if_neg (by omega), if_neg (by omega), if_neg (by omega)]
theorem ref_compare (k : Nat) (hk : 14 < k) (op a b c d : Int) : levyref1_Compare.f k op a b c d = some (compareS op [⟨a, b⟩, ⟨c, d⟩] b d) := by
  unfold levyref1_Compare.f compareS
  rw [looked_is _ (by simp) k (by simp; omega)]
  cases hf : flt [⟨a, b⟩, ⟨c, d⟩] with
  | some v => simp [lookR]
  | none =>
    simp only [lookR, Option.bind_some]
    rw [if_neg (by simp)]
    have h4 := ref_alike_same 4 (by simp) [⟨a, b⟩, ⟨c, d⟩] (by simp) (by simp) k (by simp; omega)
    have h2 := ref_alike_same 2 (by simp) [⟨a, b⟩, ⟨c, d⟩] (by simp) (by simp) k (by simp; omega)
    have e4 : listed 4 = [1, 2, 3, 4, 5] := rfl
    have e2 : listed 2 = [1, 2, 4] := rfl
    rw [e4] at h4
    rw [e2] at h2
    rw [h4, h2]
    simp only [Option.bind_some]
    by_cases hlo : op < 25
    · rw [if_pos hlo, ref_j0_bad k (by omega), flag_out op b d (by omega)]; simp
    · rw [if_neg hlo]
      by_cases hhi : op > 30
      · rw [if_pos hhi, ref_j0_bad k (by omega), flag_out op b d (by omega)]; simp
      · rw [if_neg hhi]
        by_cases h6 : op ≤ 26
        · have h7 : ¬ op > 26 := by omega
          rw [if_pos h6, if_neg h7, if_pos (show op = 25 ∨ op = 26 by omega), ref_j0_bad k (by omega), ref_j0 k (by omega) op a b c d (by omega)]
          split <;> rfl
        · have h7 : op > 26 := by omega
          rw [if_neg h6, if_pos h7, if_neg (show ¬ (op = 25 ∨ op = 26) by omega), ref_j0_b k (by omega) op a b c d (by omega)]
theorem MoneyCompares (op : Int) (x1 x2 : S23) : ∃ k, levylaw1_MoneyCompares.f k op x1.f0 x1.f1 x2.f0 x2.f1 = some true := by
  refine ⟨20, ?_⟩
  unfold levylaw1_MoneyCompares.f
  rw [compare_is 20 (by decide), ref_compare 20 (by decide)]
  simp only [Option.bind_some, same_pair]
end Go.Proofs.YtnjhjaifmgjljaaDoor.Pure
