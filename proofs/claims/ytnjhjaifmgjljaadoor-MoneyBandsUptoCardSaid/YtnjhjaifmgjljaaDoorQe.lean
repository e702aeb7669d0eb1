/- Plain: what both sides of a call of the alike kind come to. -/
import Derived.Test.YtnjhjaifmgjljaaDoorPMx0
import Derived.Test.YtnjhjaifmgjljaaDoorPMx8
import Derived.Test.YtnjhjaifmgjljaaDoorPMx10
import Derived.Test.YtnjhjaifmgjljaaDoorPMx16
import Derived.Test.YtnjhjaifmgjljaaDoorQa
namespace Go.Proofs.YtnjhjaifmgjljaaDoor.Pure
open Go.RowKit Go.Proofs.YtnjhjaifmgjljaaDoor.PM Go.Proofs.YtnjhjaifmgjljaaDoor.Q Go.Proofs.YtnjhjaifmgjljaaDoorW.PrintWords Go.Proofs.YtnjhjaifmgjljaaDoorW.PrintLast Go.Proofs.YtnjhjaifmgjljaaDoorW.PrintMore
/-- Both sides of a call of the alike kind, where the program's answer is the checked number. -/
theorem sides (call : Int) (hc : call = 1 ∨ call = 2 ∨ call = 4) (v : S23) (l : List S23) (hl : (v :: l).length ≤ 6) (n : Int) (k : Nat) (hk : 12 < k) :
    ((money_alike.f k call (v :: l)).bind fun b => (if b.2.2 = true then ((money_checked.f v.f0 n).bind fun c => (some (c.1, c.2))) else (some (b.1, b.2.1)))) = some (chosenS call (v :: l) n) := by
  rw [alike_is call hc (v :: l) (by omega) k (by omega)]
  simp only [Option.bind_some, alikeS, chosenS]
  cases hf : flt (v :: l) with
  | some v => simp
  | none =>
    have hm := flt_none hf v (by simp)
    have e : (rd_T23 (v :: l) 0).f0 = v.f0 := rfl
    simp only [e]
    split
    · rw [if_pos rfl, checked_is v.f0 _ (by omega) (by omega)]; rfl
    · simp
theorem ref_side (call : Int) (hc : call = 1 ∨ call = 2 ∨ call = 4) (v : S23) (l : List S23) (hl : (v :: l).length ≤ 6) (n : Int) (k : Nat) (hk : 12 < k) :
    ((levyref1_chosen.f k (v :: l) n (listed call)).bind fun b => (some (b.1, b.2))) = some (chosenS call (v :: l) n) := by
  rw [chosen_is call hc (v :: l) (by omega) (by simp) n k (by omega)]; rfl
theorem same_pair (v : Int × Int) : (v.1 == v.1 && (v.2 == v.2)) = true := by simp
end Go.Proofs.YtnjhjaifmgjljaaDoor.Pure
