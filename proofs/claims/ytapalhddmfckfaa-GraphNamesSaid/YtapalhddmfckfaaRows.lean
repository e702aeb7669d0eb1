/-
  No cell of these rows narrows 'for every input' (looked for: loops, veiled, ifaces, maps, wideKeys, modest, calm, conditions, laid).
  DERIVED. THE GIVEN ROWS OF THIS SEAT. 5 by the template 'for every input the law returns true; each argument reads behind the call as it read before'; 0 by the template 'total and deterministic' (their statements: YtapalhddmfckfaaTotals.lean).
  GIVEN WITH THE SEED: the statements are not yours to turn. If you find one false, say at which input.
  Laid BY PROGRAM, IN A SANDBOX (cutbox-rows.mjs): the forced cells as the released guide's own fill.sh prints them over the translation 3f3590f23bfb3697… (all of the seat's roots in one cut). By AI agents, Wed Nov 11 2026. No macro, syntax, notation, axiom, sorry.
-/
import Derived.Test.YtapalhddmfckfaaChecked
import GoSem.Claim
import GoSem.ClaimJoined
import GoSem.ClaimMapViews
import Derived.JoinedTies
import Derived.KernelRfl
namespace Go.Proofs.Ytapalhddmfckfaa
/- THE CELL 'sum', in the pinned program and in every row, IS THE sha256 OF THE DUMP (.gsa) THAT YtapalhddmfckfaaProg.lean LOADS. Nothing in Lean hashes anything: it is a label: what it is worth is what the hold of that sum in a sandbox is worth. -/
noncomputable def Try.pinned : Pinned := { name := "ytapalhddmfckfaa", sum := "3f3590f23bfb3697713bf67ee4dec2d1ca139ff37d1d08e1f353d605fe0de0c2", checked := Try.checked }
namespace Rows
def none {H : Type} : Left H := { results := [], args := [] }

/-- 'levylaw6.TypesNames': WHATEVER THE INPUT: true; the input reads as it did. -/
def typesNamesSpec : ChangeSpec := { name := "typesNames", fn := fun _ => fun
  | [] => { results := [.lit (.bool true)], args := [] }
  | _ => none }
def typesNamesRow : OpenClaim := { program := "ytapalhddmfckfaa", sum := "3f3590f23bfb3697713bf67ee4dec2d1ca139ff37d1d08e1f353d605fe0de0c2", func := "levy/levylaw6.TypesNames", spec := "typesNames", apart := false }
def TypesNamesSaid : Prop := typesNamesRow.holds Try.pinned (OpenSpec.ofChange typesNamesSpec)

/-- ITS FALSE NEIGHBOUR: 'it returns false'. Refute it at one input. -/
def typesNamesWrong : ChangeSpec := { name := "typesNames", fn := fun _ => fun
  | [] => { results := [.lit (.bool false)], args := [] }
  | _ => none }
def TypesNamesWrongFalsely : Prop := typesNamesRow.holds Try.pinned (OpenSpec.ofChange typesNamesWrong)

/-- 'levylaw8.GraphNames': WHATEVER THE INPUT: true; the input reads as it did. -/
def graphNamesSpec : ChangeSpec := { name := "graphNames", fn := fun _ => fun
  | [] => { results := [.lit (.bool true)], args := [] }
  | _ => none }
def graphNamesRow : OpenClaim := { program := "ytapalhddmfckfaa", sum := "3f3590f23bfb3697713bf67ee4dec2d1ca139ff37d1d08e1f353d605fe0de0c2", func := "levy/levylaw8.GraphNames", spec := "graphNames", apart := false }
def GraphNamesSaid : Prop := graphNamesRow.holds Try.pinned (OpenSpec.ofChange graphNamesSpec)

/-- ITS FALSE NEIGHBOUR: 'it returns false'. Refute it at one input. -/
def graphNamesWrong : ChangeSpec := { name := "graphNames", fn := fun _ => fun
  | [] => { results := [.lit (.bool false)], args := [] }
  | _ => none }
def GraphNamesWrongFalsely : Prop := graphNamesRow.holds Try.pinned (OpenSpec.ofChange graphNamesWrong)

/-- 'levylaw7.PackNames': WHATEVER THE INPUT: true; the input reads as it did. -/
def packNamesSpec : ChangeSpec := { name := "packNames", fn := fun _ => fun
  | [] => { results := [.lit (.bool true)], args := [] }
  | _ => none }
def packNamesRow : OpenClaim := { program := "ytapalhddmfckfaa", sum := "3f3590f23bfb3697713bf67ee4dec2d1ca139ff37d1d08e1f353d605fe0de0c2", func := "levy/levylaw7.PackNames", spec := "packNames", apart := false }
def PackNamesSaid : Prop := packNamesRow.holds Try.pinned (OpenSpec.ofChange packNamesSpec)

/-- ITS FALSE NEIGHBOUR: 'it returns false'. Refute it at one input. -/
def packNamesWrong : ChangeSpec := { name := "packNames", fn := fun _ => fun
  | [] => { results := [.lit (.bool false)], args := [] }
  | _ => none }
def PackNamesWrongFalsely : Prop := packNamesRow.holds Try.pinned (OpenSpec.ofChange packNamesWrong)

/-- 'levylaw17.CurveNames': WHATEVER THE INPUT: true; the input reads as it did. -/
def curveNamesSpec : ChangeSpec := { name := "curveNames", fn := fun _ => fun
  | [] => { results := [.lit (.bool true)], args := [] }
  | _ => none }
def curveNamesRow : OpenClaim := { program := "ytapalhddmfckfaa", sum := "3f3590f23bfb3697713bf67ee4dec2d1ca139ff37d1d08e1f353d605fe0de0c2", func := "levy/levylaw17.CurveNames", spec := "curveNames", apart := false }
def CurveNamesSaid : Prop := curveNamesRow.holds Try.pinned (OpenSpec.ofChange curveNamesSpec)

/-- ITS FALSE NEIGHBOUR: 'it returns false'. Refute it at one input. -/
def curveNamesWrong : ChangeSpec := { name := "curveNames", fn := fun _ => fun
  | [] => { results := [.lit (.bool false)], args := [] }
  | _ => none }
def CurveNamesWrongFalsely : Prop := curveNamesRow.holds Try.pinned (OpenSpec.ofChange curveNamesWrong)

/-- 'levytop.TopNames': WHATEVER THE INPUT: true; the input reads as it did. -/
def topNamesSpec : ChangeSpec := { name := "topNames", fn := fun _ => fun
  | [] => { results := [.lit (.bool true)], args := [] }
  | _ => none }
def topNamesRow : OpenClaim := { program := "ytapalhddmfckfaa", sum := "3f3590f23bfb3697713bf67ee4dec2d1ca139ff37d1d08e1f353d605fe0de0c2", func := "levy/levytop.TopNames", spec := "topNames", apart := false }
def TopNamesSaid : Prop := topNamesRow.holds Try.pinned (OpenSpec.ofChange topNamesSpec)

/-- ITS FALSE NEIGHBOUR: 'it returns false'. Refute it at one input. -/
def topNamesWrong : ChangeSpec := { name := "topNames", fn := fun _ => fun
  | [] => { results := [.lit (.bool false)], args := [] }
  | _ => none }
def TopNamesWrongFalsely : Prop := topNamesRow.holds Try.pinned (OpenSpec.ofChange topNamesWrong)

/- THE SECOND FORM. 'bulk': how many values and letters a reading holds, each counted each time it is reached (what is shared counts as often as it is met; a slice's spare places count too). A statement '..UptoSaid' is the law's where the arguments, and the package variables that the reading takes, are together of bulk at most 1048576: NARROWER than '..Said'. Prove '..Said' where nothing that the law and all that it calls make is longer than what came in: it says more and counts as full. Else prove '..UptoSaid'. A law counts once. -/
mutual
def uptoBulk {H : Type} : DataW H → Nat
  | .lit (.string bytes) => bytes.length + 1
  | .lit _ => 1
  | .nil => 1
  | .ptr d => uptoBulk d + 1
  | .slice elems spare => uptoBulkAll elems + uptoBulkAll spare + 1
  | .agg parts => uptoBulkAll parts + 1
  | .iface _ d => uptoBulk d + 1
  | .map entries => uptoBulkEntries entries + 1
  | .held _ => 1
def uptoBulkAll {H : Type} : List (DataW H) → Nat
  | [] => 0
  | d :: r => uptoBulk d + uptoBulkAll r
def uptoBulkEntries {H : Type} : List (Lit × DataW H) → Nat
  | [] => 0
  | x :: r => uptoBulkEntry x + uptoBulkEntries r
def uptoBulkEntry {H : Type} : Lit × DataW H → Nat
  | (.string bytes, d) => bytes.length + uptoBulk d + 1
  | (_, d) => uptoBulk d + 1
 end
def uptoSmall : (H : Type) → List (DataW H) → Bool := fun _ ds => decide (uptoBulkAll ds ≤ 1048576)
def OpenSpec.upto (s : _root_.Go.ChangeSpec) : _root_.Go.OpenSpec := { _root_.Go.OpenSpec.ofChange s with cond := some uptoSmall }

/-- 'levylaw6.TypesNames', WHERE WHAT IT READS IS OF BULK AT MOST 1048576: true; the input reads as it did. -/
def typesNamesUptoRow : OpenClaim := { program := "ytapalhddmfckfaa", sum := "3f3590f23bfb3697713bf67ee4dec2d1ca139ff37d1d08e1f353d605fe0de0c2", func := "levy/levylaw6.TypesNames", spec := "typesNames", apart := false, narrowed := true }
def TypesNamesUptoSaid : Prop := typesNamesUptoRow.holds Try.pinned (OpenSpec.upto typesNamesSpec)

/-- 'levylaw8.GraphNames', WHERE WHAT IT READS IS OF BULK AT MOST 1048576: true; the input reads as it did. -/
def graphNamesUptoRow : OpenClaim := { program := "ytapalhddmfckfaa", sum := "3f3590f23bfb3697713bf67ee4dec2d1ca139ff37d1d08e1f353d605fe0de0c2", func := "levy/levylaw8.GraphNames", spec := "graphNames", apart := false, narrowed := true }
def GraphNamesUptoSaid : Prop := graphNamesUptoRow.holds Try.pinned (OpenSpec.upto graphNamesSpec)

/-- 'levylaw7.PackNames', WHERE WHAT IT READS IS OF BULK AT MOST 1048576: true; the input reads as it did. -/
def packNamesUptoRow : OpenClaim := { program := "ytapalhddmfckfaa", sum := "3f3590f23bfb3697713bf67ee4dec2d1ca139ff37d1d08e1f353d605fe0de0c2", func := "levy/levylaw7.PackNames", spec := "packNames", apart := false, narrowed := true }
def PackNamesUptoSaid : Prop := packNamesUptoRow.holds Try.pinned (OpenSpec.upto packNamesSpec)

/-- 'levylaw17.CurveNames', WHERE WHAT IT READS IS OF BULK AT MOST 1048576: true; the input reads as it did. -/
def curveNamesUptoRow : OpenClaim := { program := "ytapalhddmfckfaa", sum := "3f3590f23bfb3697713bf67ee4dec2d1ca139ff37d1d08e1f353d605fe0de0c2", func := "levy/levylaw17.CurveNames", spec := "curveNames", apart := false, narrowed := true }
def CurveNamesUptoSaid : Prop := curveNamesUptoRow.holds Try.pinned (OpenSpec.upto curveNamesSpec)

/-- 'levytop.TopNames', WHERE WHAT IT READS IS OF BULK AT MOST 1048576: true; the input reads as it did. -/
def topNamesUptoRow : OpenClaim := { program := "ytapalhddmfckfaa", sum := "3f3590f23bfb3697713bf67ee4dec2d1ca139ff37d1d08e1f353d605fe0de0c2", func := "levy/levytop.TopNames", spec := "topNames", apart := false, narrowed := true }
def TopNamesUptoSaid : Prop := topNamesUptoRow.holds Try.pinned (OpenSpec.upto topNamesSpec)

end Rows
end Go.Proofs.Ytapalhddmfckfaa
