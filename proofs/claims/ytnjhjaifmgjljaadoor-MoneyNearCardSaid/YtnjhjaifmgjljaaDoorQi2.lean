/- Plain: ranges of counts and products; the wide product. -/
import Derived.Test.YtnjhjaifmgjljaaDoorPMx0
import Derived.Test.YtnjhjaifmgjljaaDoorPMx48
import Derived.Test.YtnjhjaifmgjljaaDoorQj
set_option linter.unusedSimpArgs false
namespace Go.Proofs.YtnjhjaifmgjljaaDoor.Pure
open Go.RowKit Go.Proofs.YtnjhjaifmgjljaaDoor.PM Go.Proofs.YtnjhjaifmgjljaaDoor.Q Go.Proofs.YtnjhjaifmgjljaaDoorW.PrintWords Go.Proofs.YtnjhjaifmgjljaaDoorW.PrintLast Go.Proofs.YtnjhjaifmgjljaaDoorW.PrintMore
theorem vld_count {b : Int} (h : vld 2 b = true) : -1000000000 ≤ b ∧ b ≤ 1000000000 := by
  simp [vld] at h; omega
theorem mul_range (b d : Int) (hb : -10000000000000 < b ∧ b < 10000000000000) (hd : -1000000000 ≤ d ∧ d ≤ 1000000000) : 0 ≤ aabs b * aabs d ∧ aabs b * aabs d ≤ 10000000000000 * 1000000000 := by
  have h1 := aabs_range b hb.1 hb.2
  have h2 : 0 ≤ aabs d ∧ aabs d ≤ 1000000000 := by unfold aabs; split <;> omega
  exact ⟨Int.mul_nonneg h1.1 h2.1, Int.mul_le_mul (by omega) h2.2 h2.1 (by decide)⟩
theorem mul64_is (x y : Int) (hx : 0 ≤ x ∧ x < 18446744073709551616) (hy : 0 ≤ y ∧ y < 18446744073709551616) : bits_Mul64.f x y = some (x * y / 18446744073709551616, x * y % 18446744073709551616) := by
  unfold bits_Mul64.f; rw [if_pos ⟨hx.1, hx.2, hy.1, hy.2⟩]
end Go.Proofs.YtnjhjaifmgjljaaDoor.Pure
