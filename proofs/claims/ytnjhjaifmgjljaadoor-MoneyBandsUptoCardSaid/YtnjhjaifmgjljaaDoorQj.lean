/- Plain: the looks at operands, eventually; kinds' ranges; modes. -/
import Derived.Test.YtnjhjaifmgjljaaDoorPMx0
import Derived.Test.YtnjhjaifmgjljaaDoorPMx9
import Derived.Test.YtnjhjaifmgjljaaDoorPMx14
import Derived.Test.YtnjhjaifmgjljaaDoorPMx35
import Derived.Test.YtnjhjaifmgjljaaDoorPMx40
import Derived.Test.YtnjhjaifmgjljaaDoorQg
set_option linter.unusedSimpArgs false
namespace Go.Proofs.YtnjhjaifmgjljaaDoor.Pure
open Go.RowKit Go.Proofs.YtnjhjaifmgjljaaDoor.PM Go.Proofs.YtnjhjaifmgjljaaDoor.Q Go.Proofs.YtnjhjaifmgjljaaDoorW.PrintWords Go.Proofs.YtnjhjaifmgjljaaDoorW.PrintLast Go.Proofs.YtnjhjaifmgjljaaDoorW.PrintMore
theorem Ev.seen (l : List S23) (hl : l.length ≤ 1000000000) : Ev (fun k => money_seen.f k l) (seenR (flt l)) := ⟨l.length + 1, fun k hk => seen_is l hl k (by omega)⟩
theorem Ev.looked (l : List S23) (hl : l.length ≤ 1000000000) : Ev (fun k => levyref1_looked.f k l) (lookR (flt l)) := ⟨l.length + 1, fun k hk => looked_is l hl k (by omega)⟩
theorem vld_cents {b : Int} (h : vld 1 b = true) : -10000000000000 < b ∧ b < 10000000000000 := by
  simp [vld] at h; omega
theorem modes_is (m : Int) : money_modes.f m = some (decide (1 ≤ m ∧ m ≤ 5)) := by
  unfold money_modes.f
  by_cases h : 1 ≤ m <;> simp [h]
theorem isMode_is (m : Int) : levyref1_isMode.f m = some (decide (1 ≤ m ∧ m ≤ 5)) := by
  unfold levyref1_isMode.f
  by_cases h : 1 ≤ m <;> simp [h]
end Go.Proofs.YtnjhjaifmgjljaaDoor.Pure
