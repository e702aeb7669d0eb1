/-
  No cell of these rows narrows 'for every input' (looked for: loops, veiled, ifaces, maps, wideKeys, modest, calm, conditions, laid).
  DERIVED. THE GIVEN ROWS OF THIS SEAT. 8 by the template 'for every input the law returns true; each argument reads behind the call as it read before'; 0 by the template 'total and deterministic' (their statements: YtfhgomcfpmbhnaaTotals.lean).
  GIVEN WITH THE SEED: the statements are not yours to turn. If you find one false, say at which input.
  Laid BY PROGRAM, IN A SANDBOX (cutbox-rows.mjs): the forced cells as the released guide's own fill.sh prints them over the translation ebef891c2a1c9ef1… (all of the seat's roots in one cut). By AI agents, Wed Nov 11 2026. No macro, syntax, notation, axiom, sorry.
-/
import Derived.Test.YtfhgomcfpmbhnaaChecked
import GoSem.Claim
import GoSem.ClaimJoined
import GoSem.ClaimMapViews
import Derived.JoinedTies
import Derived.KernelRfl
namespace Go.Proofs.Ytfhgomcfpmbhnaa
/- THE CELL 'sum', in the pinned program and in every row, IS THE sha256 OF THE DUMP (.gsa) THAT YtfhgomcfpmbhnaaProg.lean LOADS. Nothing in Lean hashes anything: it is a label: what it is worth is what the hold of that sum in a sandbox is worth. -/
noncomputable def Try.pinned : Pinned := { name := "ytfhgomcfpmbhnaa", sum := "ebef891c2a1c9ef117856e85bc9c6266870f0cd76899a0e513b4f5a7c17501cd", checked := Try.checked }
namespace Rows
def none {H : Type} : Left H := { results := [], args := [] }

/-- 'levylaw17.CurveNames': WHATEVER THE INPUT: true; the input reads as it did. -/
def curveNamesSpec : ChangeSpec := { name := "curveNames", fn := fun _ => fun
  | [] => { results := [.lit (.bool true)], args := [] }
  | _ => none }
def curveNamesRow : OpenClaim := { program := "ytfhgomcfpmbhnaa", sum := "ebef891c2a1c9ef117856e85bc9c6266870f0cd76899a0e513b4f5a7c17501cd", func := "levy/levylaw17.CurveNames", spec := "curveNames", apart := false }
def CurveNamesSaid : Prop := curveNamesRow.holds Try.pinned (OpenSpec.ofChange curveNamesSpec)

/-- ITS FALSE NEIGHBOUR: 'it returns false'. Refute it at one input. -/
def curveNamesWrong : ChangeSpec := { name := "curveNames", fn := fun _ => fun
  | [] => { results := [.lit (.bool false)], args := [] }
  | _ => none }
def CurveNamesWrongFalsely : Prop := curveNamesRow.holds Try.pinned (OpenSpec.ofChange curveNamesWrong)

/-- 'levylaw17.CurveSamples': WHATEVER THE INPUT: true; the input reads as it did. -/
def curveSamplesSpec : ChangeSpec := { name := "curveSamples", fn := fun _ => fun
  | [d1, d2, d3, d4] => { results := [.lit (.bool true)], args := [d1, d2, d3, d4] }
  | _ => none }
def curveSamplesRow : OpenClaim := { program := "ytfhgomcfpmbhnaa", sum := "ebef891c2a1c9ef117856e85bc9c6266870f0cd76899a0e513b4f5a7c17501cd", func := "levy/levylaw17.CurveSamples", spec := "curveSamples", inPlace := ["math.Float32bits"], unfollowed := true, recurses := true, apart := false }
def CurveSamplesSaid : Prop := curveSamplesRow.holds Try.pinned (OpenSpec.ofChange curveSamplesSpec)

/-- ITS FALSE NEIGHBOUR: 'it returns false'. Refute it at one input. -/
def curveSamplesWrong : ChangeSpec := { name := "curveSamples", fn := fun _ => fun
  | [d1, d2, d3, d4] => { results := [.lit (.bool false)], args := [d1, d2, d3, d4] }
  | _ => none }
def CurveSamplesWrongFalsely : Prop := curveSamplesRow.holds Try.pinned (OpenSpec.ofChange curveSamplesWrong)

/-- 'levylaw17.CurveAts': WHATEVER THE INPUT: true; the input reads as it did. -/
def curveAtsSpec : ChangeSpec := { name := "curveAts", fn := fun _ => fun
  | [d1, d2] => { results := [.lit (.bool true)], args := [d1, d2] }
  | _ => none }
def curveAtsRow : OpenClaim := { program := "ytfhgomcfpmbhnaa", sum := "ebef891c2a1c9ef117856e85bc9c6266870f0cd76899a0e513b4f5a7c17501cd", func := "levy/levylaw17.CurveAts", spec := "curveAts", inPlace := ["math.Float32frombits", "math.Float32bits"], apart := false }
def CurveAtsSaid : Prop := curveAtsRow.holds Try.pinned (OpenSpec.ofChange curveAtsSpec)

/-- ITS FALSE NEIGHBOUR: 'it returns false'. Refute it at one input. -/
def curveAtsWrong : ChangeSpec := { name := "curveAts", fn := fun _ => fun
  | [d1, d2] => { results := [.lit (.bool false)], args := [d1, d2] }
  | _ => none }
def CurveAtsWrongFalsely : Prop := curveAtsRow.holds Try.pinned (OpenSpec.ofChange curveAtsWrong)

/-- 'levylaw17.CurveRates': WHATEVER THE INPUT: true; the input reads as it did. -/
def curveRatesSpec : ChangeSpec := { name := "curveRates", fn := fun _ => fun
  | [d1, d2, d3] => { results := [.lit (.bool true)], args := [d1, d2, d3] }
  | _ => none }
def curveRatesRow : OpenClaim := { program := "ytfhgomcfpmbhnaa", sum := "ebef891c2a1c9ef117856e85bc9c6266870f0cd76899a0e513b4f5a7c17501cd", func := "levy/levylaw17.CurveRates", spec := "curveRates", inPlace := ["math.Float32frombits", "math.Float32bits"], apart := false }
def CurveRatesSaid : Prop := curveRatesRow.holds Try.pinned (OpenSpec.ofChange curveRatesSpec)

/-- ITS FALSE NEIGHBOUR: 'it returns false'. Refute it at one input. -/
def curveRatesWrong : ChangeSpec := { name := "curveRates", fn := fun _ => fun
  | [d1, d2, d3] => { results := [.lit (.bool false)], args := [d1, d2, d3] }
  | _ => none }
def CurveRatesWrongFalsely : Prop := curveRatesRow.holds Try.pinned (OpenSpec.ofChange curveRatesWrong)

/-- 'levylaw17.CurvePictures': WHATEVER THE INPUT: true; the input reads as it did. -/
def curvePicturesSpec : ChangeSpec := { name := "curvePictures", fn := fun _ => fun
  | [d1, d2, d3] => { results := [.lit (.bool true)], args := [d1, d2, d3] }
  | _ => none }
def curvePicturesRow : OpenClaim := { program := "ytfhgomcfpmbhnaa", sum := "ebef891c2a1c9ef117856e85bc9c6266870f0cd76899a0e513b4f5a7c17501cd", func := "levy/levylaw17.CurvePictures", spec := "curvePictures", inPlace := ["math.Float32frombits", "internal/abi.NoEscape", "internal/bytealg.MakeNoZero", "math.Float32bits"], apart := false }
def CurvePicturesSaid : Prop := curvePicturesRow.holds Try.pinned (OpenSpec.ofChange curvePicturesSpec)

/-- ITS FALSE NEIGHBOUR: 'it returns false'. Refute it at one input. -/
def curvePicturesWrong : ChangeSpec := { name := "curvePictures", fn := fun _ => fun
  | [d1, d2, d3] => { results := [.lit (.bool false)], args := [d1, d2, d3] }
  | _ => none }
def CurvePicturesWrongFalsely : Prop := curvePicturesRow.holds Try.pinned (OpenSpec.ofChange curvePicturesWrong)

/-- 'levylaw17.CurvePicture': WHATEVER THE INPUT: true; the input reads as it did. -/
def curvePictureSpec : ChangeSpec := { name := "curvePicture", fn := fun _ => fun
  | [d1, d2, d3] => { results := [.lit (.bool true)], args := [d1, d2, d3] }
  | _ => none }
def curvePictureRow : OpenClaim := { program := "ytfhgomcfpmbhnaa", sum := "ebef891c2a1c9ef117856e85bc9c6266870f0cd76899a0e513b4f5a7c17501cd", func := "levy/levylaw17.CurvePicture", spec := "curvePicture", inPlace := ["internal/abi.NoEscape", "internal/bytealg.MakeNoZero"], unfollowed := true, recurses := true, apart := false }
def CurvePictureSaid : Prop := curvePictureRow.holds Try.pinned (OpenSpec.ofChange curvePictureSpec)

/-- ITS FALSE NEIGHBOUR: 'it returns false'. Refute it at one input. -/
def curvePictureWrong : ChangeSpec := { name := "curvePicture", fn := fun _ => fun
  | [d1, d2, d3] => { results := [.lit (.bool false)], args := [d1, d2, d3] }
  | _ => none }
def CurvePictureWrongFalsely : Prop := curvePictureRow.holds Try.pinned (OpenSpec.ofChange curvePictureWrong)

/-- 'levylaw17.CurveSmooth': WHATEVER THE INPUT: true; the input reads as it did. -/
def curveSmoothSpec : ChangeSpec := { name := "curveSmooth", fn := fun _ => fun
  | [d1, d2] => { results := [.lit (.bool true)], args := [d1, d2] }
  | _ => none }
def curveSmoothRow : OpenClaim := { program := "ytfhgomcfpmbhnaa", sum := "ebef891c2a1c9ef117856e85bc9c6266870f0cd76899a0e513b4f5a7c17501cd", func := "levy/levylaw17.CurveSmooth", spec := "curveSmooth", inPlace := ["internal/abi.NoEscape", "internal/bytealg.MakeNoZero"], unfollowed := true, recurses := true, apart := false }
def CurveSmoothSaid : Prop := curveSmoothRow.holds Try.pinned (OpenSpec.ofChange curveSmoothSpec)

/-- ITS FALSE NEIGHBOUR: 'it returns false'. Refute it at one input. -/
def curveSmoothWrong : ChangeSpec := { name := "curveSmooth", fn := fun _ => fun
  | [d1, d2] => { results := [.lit (.bool false)], args := [d1, d2] }
  | _ => none }
def CurveSmoothWrongFalsely : Prop := curveSmoothRow.holds Try.pinned (OpenSpec.ofChange curveSmoothWrong)

/-- 'levylaw17.CurveLine': WHATEVER THE INPUT: true; the input reads as it did. -/
def curveLineSpec : ChangeSpec := { name := "curveLine", fn := fun _ => fun
  | [d1, d2, d3] => { results := [.lit (.bool true)], args := [d1, d2, d3] }
  | _ => none }
def curveLineRow : OpenClaim := { program := "ytfhgomcfpmbhnaa", sum := "ebef891c2a1c9ef117856e85bc9c6266870f0cd76899a0e513b4f5a7c17501cd", func := "levy/levylaw17.CurveLine", spec := "curveLine", inPlace := ["internal/abi.NoEscape", "internal/bytealg.MakeNoZero"], unfollowed := true, recurses := true, apart := false }
def CurveLineSaid : Prop := curveLineRow.holds Try.pinned (OpenSpec.ofChange curveLineSpec)

/-- ITS FALSE NEIGHBOUR: 'it returns false'. Refute it at one input. -/
def curveLineWrong : ChangeSpec := { name := "curveLine", fn := fun _ => fun
  | [d1, d2, d3] => { results := [.lit (.bool false)], args := [d1, d2, d3] }
  | _ => none }
def CurveLineWrongFalsely : Prop := curveLineRow.holds Try.pinned (OpenSpec.ofChange curveLineWrong)

/- THE SECOND FORM. 'bulk': how many values and letters a reading holds, each counted each time it is reached (what is shared counts as often as it is met; a slice's spare places count too). A statement '..UptoSaid' is the law's where the arguments, and the package variables that the reading takes, are together of bulk at most 1048576: NARROWER than '..Said'. Prove '..Said' where nothing that the law and all that it calls make is longer than what came in: it says more and counts as full. Else prove '..UptoSaid'. A law counts once. -/
mutual
def uptoBulk {H : Type} : DataW H → Nat
  | .lit (.string bytes) => bytes.length + 1
  | .lit _ => 1
  | .nil => 1
  | .ptr d => uptoBulk d + 1
  | .slice elems spare => uptoBulkAll elems + uptoBulkAll spare + 1
  | .agg parts => uptoBulkAll parts + 1
  | .iface _ d => uptoBulk d + 1
  | .map entries => uptoBulkEntries entries + 1
  | .held _ => 1
def uptoBulkAll {H : Type} : List (DataW H) → Nat
  | [] => 0
  | d :: r => uptoBulk d + uptoBulkAll r
def uptoBulkEntries {H : Type} : List (Lit × DataW H) → Nat
  | [] => 0
  | x :: r => uptoBulkEntry x + uptoBulkEntries r
def uptoBulkEntry {H : Type} : Lit × DataW H → Nat
  | (.string bytes, d) => bytes.length + uptoBulk d + 1
  | (_, d) => uptoBulk d + 1
 end
def uptoSmall : (H : Type) → List (DataW H) → Bool := fun _ ds => decide (uptoBulkAll ds ≤ 1048576)
def OpenSpec.upto (s : _root_.Go.ChangeSpec) : _root_.Go.OpenSpec := { _root_.Go.OpenSpec.ofChange s with cond := some uptoSmall }

/-- 'levylaw17.CurveNames', WHERE WHAT IT READS IS OF BULK AT MOST 1048576: true; the input reads as it did. -/
def curveNamesUptoRow : OpenClaim := { program := "ytfhgomcfpmbhnaa", sum := "ebef891c2a1c9ef117856e85bc9c6266870f0cd76899a0e513b4f5a7c17501cd", func := "levy/levylaw17.CurveNames", spec := "curveNames", apart := false, narrowed := true }
def CurveNamesUptoSaid : Prop := curveNamesUptoRow.holds Try.pinned (OpenSpec.upto curveNamesSpec)

/-- 'levylaw17.CurveSamples', WHERE WHAT IT READS IS OF BULK AT MOST 1048576: true; the input reads as it did. -/
def curveSamplesUptoRow : OpenClaim := { program := "ytfhgomcfpmbhnaa", sum := "ebef891c2a1c9ef117856e85bc9c6266870f0cd76899a0e513b4f5a7c17501cd", func := "levy/levylaw17.CurveSamples", spec := "curveSamples", inPlace := ["math.Float32bits"], unfollowed := true, recurses := true, apart := false, narrowed := true }
def CurveSamplesUptoSaid : Prop := curveSamplesUptoRow.holds Try.pinned (OpenSpec.upto curveSamplesSpec)

/-- 'levylaw17.CurveAts', WHERE WHAT IT READS IS OF BULK AT MOST 1048576: true; the input reads as it did. -/
def curveAtsUptoRow : OpenClaim := { program := "ytfhgomcfpmbhnaa", sum := "ebef891c2a1c9ef117856e85bc9c6266870f0cd76899a0e513b4f5a7c17501cd", func := "levy/levylaw17.CurveAts", spec := "curveAts", inPlace := ["math.Float32frombits", "math.Float32bits"], apart := false, narrowed := true }
def CurveAtsUptoSaid : Prop := curveAtsUptoRow.holds Try.pinned (OpenSpec.upto curveAtsSpec)

/-- 'levylaw17.CurveRates', WHERE WHAT IT READS IS OF BULK AT MOST 1048576: true; the input reads as it did. -/
def curveRatesUptoRow : OpenClaim := { program := "ytfhgomcfpmbhnaa", sum := "ebef891c2a1c9ef117856e85bc9c6266870f0cd76899a0e513b4f5a7c17501cd", func := "levy/levylaw17.CurveRates", spec := "curveRates", inPlace := ["math.Float32frombits", "math.Float32bits"], apart := false, narrowed := true }
def CurveRatesUptoSaid : Prop := curveRatesUptoRow.holds Try.pinned (OpenSpec.upto curveRatesSpec)

/-- 'levylaw17.CurvePictures', WHERE WHAT IT READS IS OF BULK AT MOST 1048576: true; the input reads as it did. -/
def curvePicturesUptoRow : OpenClaim := { program := "ytfhgomcfpmbhnaa", sum := "ebef891c2a1c9ef117856e85bc9c6266870f0cd76899a0e513b4f5a7c17501cd", func := "levy/levylaw17.CurvePictures", spec := "curvePictures", inPlace := ["math.Float32frombits", "internal/abi.NoEscape", "internal/bytealg.MakeNoZero", "math.Float32bits"], apart := false, narrowed := true }
def CurvePicturesUptoSaid : Prop := curvePicturesUptoRow.holds Try.pinned (OpenSpec.upto curvePicturesSpec)

/-- 'levylaw17.CurvePicture', WHERE WHAT IT READS IS OF BULK AT MOST 1048576: true; the input reads as it did. -/
def curvePictureUptoRow : OpenClaim := { program := "ytfhgomcfpmbhnaa", sum := "ebef891c2a1c9ef117856e85bc9c6266870f0cd76899a0e513b4f5a7c17501cd", func := "levy/levylaw17.CurvePicture", spec := "curvePicture", inPlace := ["internal/abi.NoEscape", "internal/bytealg.MakeNoZero"], unfollowed := true, recurses := true, apart := false, narrowed := true }
def CurvePictureUptoSaid : Prop := curvePictureUptoRow.holds Try.pinned (OpenSpec.upto curvePictureSpec)

/-- 'levylaw17.CurveSmooth', WHERE WHAT IT READS IS OF BULK AT MOST 1048576: true; the input reads as it did. -/
def curveSmoothUptoRow : OpenClaim := { program := "ytfhgomcfpmbhnaa", sum := "ebef891c2a1c9ef117856e85bc9c6266870f0cd76899a0e513b4f5a7c17501cd", func := "levy/levylaw17.CurveSmooth", spec := "curveSmooth", inPlace := ["internal/abi.NoEscape", "internal/bytealg.MakeNoZero"], unfollowed := true, recurses := true, apart := false, narrowed := true }
def CurveSmoothUptoSaid : Prop := curveSmoothUptoRow.holds Try.pinned (OpenSpec.upto curveSmoothSpec)

/-- 'levylaw17.CurveLine', WHERE WHAT IT READS IS OF BULK AT MOST 1048576: true; the input reads as it did. -/
def curveLineUptoRow : OpenClaim := { program := "ytfhgomcfpmbhnaa", sum := "ebef891c2a1c9ef117856e85bc9c6266870f0cd76899a0e513b4f5a7c17501cd", func := "levy/levylaw17.CurveLine", spec := "curveLine", inPlace := ["internal/abi.NoEscape", "internal/bytealg.MakeNoZero"], unfollowed := true, recurses := true, apart := false, narrowed := true }
def CurveLineUptoSaid : Prop := curveLineUptoRow.holds Try.pinned (OpenSpec.upto curveLineSpec)

end Rows
end Go.Proofs.Ytfhgomcfpmbhnaa
