-- Part 5 of the texts of the claim CX (wrote by programs: words of the kit's print.sh, printed functions; and my own texts; joined by wip/tools/pack.py).
import Derived.Test.YtfhgomcfpmbhnaaCX4
import Derived.LoopTactic

section
namespace Go.Proofs.Ytfhgomcfpmbhnaa.Y
open Go.RowKit Go.Proofs.Ytfhgomcfpmbhnaa.PS Go.Proofs.YtfhgomcfpmbhnaaW.PrintWords Go.Proofs.YtfhgomcfpmbhnaaW.PrintMore Go.Proofs.YtfhgomcfpmbhnaaW.Fits
attribute [local go_sem] frun_store frun_bits frun_from
set_option linter.unusedVariables false
theorem info58 : (Try.prog.info? 58).map (fun i => (i.zero, i.size, i.bytes)) = some (some (.agg #[.int .i64 0, .float .f32 0]), 2, 16) := by kernel_rfl
theorem make58 (w : World) (n : Int) (h0 : 0 ≤ n) (h1 : n ≤ 8796093022208) : (Instr.makeSlice 31 (.int .i64 0) (.int .i64 n)).run Try.prog w = .ok (.slice (some ⟨w.heap.size, 0, none⟩) 0 n.toNat) (w.alloc (.cells (madeCells #[.int .i64 0, .float .f32 0] (n.toNat * 2)) 58)) := by
  obtain ⟨i0, hi0, hz0, hz1, hz2⟩ := info_parts info58
  have hr := run_make (P := Try.prog) w 31 58 i0 _ Try.underlying31 hi0 hz0 .i64 .i64 0 n (Int.le_refl _) h0 (by rw [hz2]; omega) (by omega)
  rw [hz1] at hr
  exact hr
theorem build58a (w : World) : (Instr.build 58 #[(0, .int .i64 (-7701))]).run Try.prog w = .ok (.agg #[.int .i64 (-7701), .float .f32 0]) w := by kernel_rfl
theorem build58b (w : World) : (Instr.build 58 #[(0, .int .i64 (-7702))]).run Try.prog w = .ok (.agg #[.int .i64 (-7702), .float .f32 0]) w := by kernel_rfl
attribute [local go_sem] make58 build58a build58b
end Go.Proofs.Ytfhgomcfpmbhnaa.Y
end
