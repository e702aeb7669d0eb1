/-
  NARROWER THAN 'FOR EVERY INPUT', by the rows' own cells (each row's printed sentence says how): PackPuts: loops · PackRound: loops · PackUnlike: loops · PackTorn: loops · PackFits: loops.
  DERIVED. THE GIVEN ROWS OF THIS SEAT. 9 by the template 'for every input the law returns true; each argument reads behind the call as it read before'; 0 by the template 'total and deterministic' (their statements: YtpbdkkahodaloaaTotals.lean).
  GIVEN WITH THE SEED: the statements are not yours to turn. If you find one false, say at which input.
  Laid BY PROGRAM, IN A SANDBOX (cutbox-rows.mjs): the forced cells as the released guide's own fill.sh prints them over the translation 6f55c4122a2a8a03… (all of the seat's roots in one cut). By AI agents, Wed Nov 11 2026. No macro, syntax, notation, axiom, sorry.
-/
import Derived.Test.YtpbdkkahodaloaaChecked
import GoSem.Claim
import GoSem.ClaimJoined
import GoSem.ClaimMapViews
import Derived.JoinedTies
import Derived.KernelRfl
namespace Go.Proofs.Ytpbdkkahodaloaa
/- THE CELL 'sum', in the pinned program and in every row, IS THE sha256 OF THE DUMP (.gsa) THAT YtpbdkkahodaloaaProg.lean LOADS. Nothing in Lean hashes anything: it is a label: what it is worth is what the hold of that sum in a sandbox is worth. -/
noncomputable def Try.pinned : Pinned := { name := "ytpbdkkahodaloaa", sum := "6f55c4122a2a8a03d0a14e1599ac8d7e24c728b7abf4d265b3b0cffab72923c9", checked := Try.checked }
namespace Rows
def none {H : Type} : Left H := { results := [], args := [] }

/-- 'levylaw7.PackNames': WHATEVER THE INPUT: true; the input reads as it did. -/
def packNamesSpec : ChangeSpec := { name := "packNames", fn := fun _ => fun
  | [] => { results := [.lit (.bool true)], args := [] }
  | _ => none }
def packNamesRow : OpenClaim := { program := "ytpbdkkahodaloaa", sum := "6f55c4122a2a8a03d0a14e1599ac8d7e24c728b7abf4d265b3b0cffab72923c9", func := "levy/levylaw7.PackNames", spec := "packNames", apart := false }
def PackNamesSaid : Prop := packNamesRow.holds Try.pinned (OpenSpec.ofChange packNamesSpec)

/-- ITS FALSE NEIGHBOUR: 'it returns false'. Refute it at one input. -/
def packNamesWrong : ChangeSpec := { name := "packNames", fn := fun _ => fun
  | [] => { results := [.lit (.bool false)], args := [] }
  | _ => none }
def PackNamesWrongFalsely : Prop := packNamesRow.holds Try.pinned (OpenSpec.ofChange packNamesWrong)

/-- 'levylaw7.PackSums': WHATEVER THE INPUT: true; the input reads as it did. -/
def packSumsSpec : ChangeSpec := { name := "packSums", fn := fun _ => fun
  | [d] => { results := [.lit (.bool true)], args := [d] }
  | _ => none }
def packSumsRow : OpenClaim := { program := "ytpbdkkahodaloaa", sum := "6f55c4122a2a8a03d0a14e1599ac8d7e24c728b7abf4d265b3b0cffab72923c9", func := "levy/levylaw7.PackSums", spec := "packSums", apart := false }
def PackSumsSaid : Prop := packSumsRow.holds Try.pinned (OpenSpec.ofChange packSumsSpec)

/-- ITS FALSE NEIGHBOUR: 'it returns false'. Refute it at one input. -/
def packSumsWrong : ChangeSpec := { name := "packSums", fn := fun _ => fun
  | [d] => { results := [.lit (.bool false)], args := [d] }
  | _ => none }
def PackSumsWrongFalsely : Prop := packSumsRow.holds Try.pinned (OpenSpec.ofChange packSumsWrong)

/-- 'levylaw7.PackPuts': WHATEVER THE INPUT: true; the input reads as it did. -/
def packPutsSpec : ChangeSpec := { name := "packPuts", fn := fun _ => fun
  | [d] => { results := [.lit (.bool true)], args := [d] }
  | _ => none }
def packPutsRow : OpenClaim := { program := "ytpbdkkahodaloaa", sum := "6f55c4122a2a8a03d0a14e1599ac8d7e24c728b7abf4d265b3b0cffab72923c9", func := "levy/levylaw7.PackPuts", spec := "packPuts", unfollowed := true, recurses := true, loops := true, apart := false }
def PackPutsSaid : Prop := packPutsRow.holds Try.pinned (OpenSpec.ofChange packPutsSpec)

/-- ITS FALSE NEIGHBOUR: 'it returns false'. Refute it at one input. -/
def packPutsWrong : ChangeSpec := { name := "packPuts", fn := fun _ => fun
  | [d] => { results := [.lit (.bool false)], args := [d] }
  | _ => none }
def PackPutsWrongFalsely : Prop := packPutsRow.holds Try.pinned (OpenSpec.ofChange packPutsWrong)

/-- 'levylaw7.PackGets': WHATEVER THE INPUT: true; the input reads as it did. -/
def packGetsSpec : ChangeSpec := { name := "packGets", fn := fun _ => fun
  | [d] => { results := [.lit (.bool true)], args := [d] }
  | _ => none }
def packGetsRow : OpenClaim := { program := "ytpbdkkahodaloaa", sum := "6f55c4122a2a8a03d0a14e1599ac8d7e24c728b7abf4d265b3b0cffab72923c9", func := "levy/levylaw7.PackGets", spec := "packGets", unfollowed := true, recurses := true, apart := false }
def PackGetsSaid : Prop := packGetsRow.holds Try.pinned (OpenSpec.ofChange packGetsSpec)

/-- ITS FALSE NEIGHBOUR: 'it returns false'. Refute it at one input. -/
def packGetsWrong : ChangeSpec := { name := "packGets", fn := fun _ => fun
  | [d] => { results := [.lit (.bool false)], args := [d] }
  | _ => none }
def PackGetsWrongFalsely : Prop := packGetsRow.holds Try.pinned (OpenSpec.ofChange packGetsWrong)

/-- 'levylaw7.PackRound': WHATEVER THE INPUT: true; the input reads as it did. -/
def packRoundSpec : ChangeSpec := { name := "packRound", fn := fun _ => fun
  | [d] => { results := [.lit (.bool true)], args := [d] }
  | _ => none }
def packRoundRow : OpenClaim := { program := "ytpbdkkahodaloaa", sum := "6f55c4122a2a8a03d0a14e1599ac8d7e24c728b7abf4d265b3b0cffab72923c9", func := "levy/levylaw7.PackRound", spec := "packRound", unfollowed := true, recurses := true, loops := true, apart := false }
def PackRoundSaid : Prop := packRoundRow.holds Try.pinned (OpenSpec.ofChange packRoundSpec)

/-- ITS FALSE NEIGHBOUR: 'it returns false'. Refute it at one input. -/
def packRoundWrong : ChangeSpec := { name := "packRound", fn := fun _ => fun
  | [d] => { results := [.lit (.bool false)], args := [d] }
  | _ => none }
def PackRoundWrongFalsely : Prop := packRoundRow.holds Try.pinned (OpenSpec.ofChange packRoundWrong)

/-- 'levylaw7.PackOne': WHATEVER THE INPUT: true; the input reads as it did. -/
def packOneSpec : ChangeSpec := { name := "packOne", fn := fun _ => fun
  | [d] => { results := [.lit (.bool true)], args := [d] }
  | _ => none }
def packOneRow : OpenClaim := { program := "ytpbdkkahodaloaa", sum := "6f55c4122a2a8a03d0a14e1599ac8d7e24c728b7abf4d265b3b0cffab72923c9", func := "levy/levylaw7.PackOne", spec := "packOne", unfollowed := true, recurses := true, apart := false }
def PackOneSaid : Prop := packOneRow.holds Try.pinned (OpenSpec.ofChange packOneSpec)

/-- ITS FALSE NEIGHBOUR: 'it returns false'. Refute it at one input. -/
def packOneWrong : ChangeSpec := { name := "packOne", fn := fun _ => fun
  | [d] => { results := [.lit (.bool false)], args := [d] }
  | _ => none }
def PackOneWrongFalsely : Prop := packOneRow.holds Try.pinned (OpenSpec.ofChange packOneWrong)

/-- 'levylaw7.PackUnlike': WHATEVER THE INPUT: true; the input reads as it did. -/
def packUnlikeSpec : ChangeSpec := { name := "packUnlike", fn := fun _ => fun
  | [d1, d2] => { results := [.lit (.bool true)], args := [d1, d2] }
  | _ => none }
def packUnlikeRow : OpenClaim := { program := "ytpbdkkahodaloaa", sum := "6f55c4122a2a8a03d0a14e1599ac8d7e24c728b7abf4d265b3b0cffab72923c9", func := "levy/levylaw7.PackUnlike", spec := "packUnlike", unfollowed := true, recurses := true, loops := true, apart := false }
def PackUnlikeSaid : Prop := packUnlikeRow.holds Try.pinned (OpenSpec.ofChange packUnlikeSpec)

/-- ITS FALSE NEIGHBOUR: 'it returns false'. Refute it at one input. -/
def packUnlikeWrong : ChangeSpec := { name := "packUnlike", fn := fun _ => fun
  | [d1, d2] => { results := [.lit (.bool false)], args := [d1, d2] }
  | _ => none }
def PackUnlikeWrongFalsely : Prop := packUnlikeRow.holds Try.pinned (OpenSpec.ofChange packUnlikeWrong)

/-- 'levylaw7.PackTorn': WHATEVER THE INPUT: true; the input reads as it did. -/
def packTornSpec : ChangeSpec := { name := "packTorn", fn := fun _ => fun
  | [d1, d2, d3, d4] => { results := [.lit (.bool true)], args := [d1, d2, d3, d4] }
  | _ => none }
def packTornRow : OpenClaim := { program := "ytpbdkkahodaloaa", sum := "6f55c4122a2a8a03d0a14e1599ac8d7e24c728b7abf4d265b3b0cffab72923c9", func := "levy/levylaw7.PackTorn", spec := "packTorn", unfollowed := true, recurses := true, loops := true, apart := false }
def PackTornSaid : Prop := packTornRow.holds Try.pinned (OpenSpec.ofChange packTornSpec)

/-- ITS FALSE NEIGHBOUR: 'it returns false'. Refute it at one input. -/
def packTornWrong : ChangeSpec := { name := "packTorn", fn := fun _ => fun
  | [d1, d2, d3, d4] => { results := [.lit (.bool false)], args := [d1, d2, d3, d4] }
  | _ => none }
def PackTornWrongFalsely : Prop := packTornRow.holds Try.pinned (OpenSpec.ofChange packTornWrong)

/-- 'levylaw7.PackFits': WHATEVER THE INPUT: true; the input reads as it did. -/
def packFitsSpec : ChangeSpec := { name := "packFits", fn := fun _ => fun
  | [d] => { results := [.lit (.bool true)], args := [d] }
  | _ => none }
def packFitsRow : OpenClaim := { program := "ytpbdkkahodaloaa", sum := "6f55c4122a2a8a03d0a14e1599ac8d7e24c728b7abf4d265b3b0cffab72923c9", func := "levy/levylaw7.PackFits", spec := "packFits", unfollowed := true, recurses := true, loops := true, apart := false }
def PackFitsSaid : Prop := packFitsRow.holds Try.pinned (OpenSpec.ofChange packFitsSpec)

/-- ITS FALSE NEIGHBOUR: 'it returns false'. Refute it at one input. -/
def packFitsWrong : ChangeSpec := { name := "packFits", fn := fun _ => fun
  | [d] => { results := [.lit (.bool false)], args := [d] }
  | _ => none }
def PackFitsWrongFalsely : Prop := packFitsRow.holds Try.pinned (OpenSpec.ofChange packFitsWrong)

/- THE SECOND FORM. 'bulk': how many values and letters a reading holds, each counted each time it is reached (what is shared counts as often as it is met; a slice's spare places count too). A statement '..UptoSaid' is the law's where the arguments, and the package variables that the reading takes, are together of bulk at most 1048576: NARROWER than '..Said'. Prove '..Said' where nothing that the law and all that it calls make is longer than what came in: it says more and counts as full. Else prove '..UptoSaid'. A law counts once. -/
mutual
def uptoBulk {H : Type} : DataW H → Nat
  | .lit (.string bytes) => bytes.length + 1
  | .lit _ => 1
  | .nil => 1
  | .ptr d => uptoBulk d + 1
  | .slice elems spare => uptoBulkAll elems + uptoBulkAll spare + 1
  | .agg parts => uptoBulkAll parts + 1
  | .iface _ d => uptoBulk d + 1
  | .map entries => uptoBulkEntries entries + 1
  | .held _ => 1
def uptoBulkAll {H : Type} : List (DataW H) → Nat
  | [] => 0
  | d :: r => uptoBulk d + uptoBulkAll r
def uptoBulkEntries {H : Type} : List (Lit × DataW H) → Nat
  | [] => 0
  | x :: r => uptoBulkEntry x + uptoBulkEntries r
def uptoBulkEntry {H : Type} : Lit × DataW H → Nat
  | (.string bytes, d) => bytes.length + uptoBulk d + 1
  | (_, d) => uptoBulk d + 1
 end
def uptoSmall : (H : Type) → List (DataW H) → Bool := fun _ ds => decide (uptoBulkAll ds ≤ 1048576)
def OpenSpec.upto (s : _root_.Go.ChangeSpec) : _root_.Go.OpenSpec := { _root_.Go.OpenSpec.ofChange s with cond := some uptoSmall }

/-- 'levylaw7.PackNames', WHERE WHAT IT READS IS OF BULK AT MOST 1048576: true; the input reads as it did. -/
def packNamesUptoRow : OpenClaim := { program := "ytpbdkkahodaloaa", sum := "6f55c4122a2a8a03d0a14e1599ac8d7e24c728b7abf4d265b3b0cffab72923c9", func := "levy/levylaw7.PackNames", spec := "packNames", apart := false, narrowed := true }
def PackNamesUptoSaid : Prop := packNamesUptoRow.holds Try.pinned (OpenSpec.upto packNamesSpec)

/-- 'levylaw7.PackSums', WHERE WHAT IT READS IS OF BULK AT MOST 1048576: true; the input reads as it did. -/
def packSumsUptoRow : OpenClaim := { program := "ytpbdkkahodaloaa", sum := "6f55c4122a2a8a03d0a14e1599ac8d7e24c728b7abf4d265b3b0cffab72923c9", func := "levy/levylaw7.PackSums", spec := "packSums", apart := false, narrowed := true }
def PackSumsUptoSaid : Prop := packSumsUptoRow.holds Try.pinned (OpenSpec.upto packSumsSpec)

/-- 'levylaw7.PackPuts', WHERE WHAT IT READS IS OF BULK AT MOST 1048576: true; the input reads as it did. -/
def packPutsUptoRow : OpenClaim := { program := "ytpbdkkahodaloaa", sum := "6f55c4122a2a8a03d0a14e1599ac8d7e24c728b7abf4d265b3b0cffab72923c9", func := "levy/levylaw7.PackPuts", spec := "packPuts", unfollowed := true, recurses := true, loops := true, apart := false, narrowed := true }
def PackPutsUptoSaid : Prop := packPutsUptoRow.holds Try.pinned (OpenSpec.upto packPutsSpec)

/-- 'levylaw7.PackGets', WHERE WHAT IT READS IS OF BULK AT MOST 1048576: true; the input reads as it did. -/
def packGetsUptoRow : OpenClaim := { program := "ytpbdkkahodaloaa", sum := "6f55c4122a2a8a03d0a14e1599ac8d7e24c728b7abf4d265b3b0cffab72923c9", func := "levy/levylaw7.PackGets", spec := "packGets", unfollowed := true, recurses := true, apart := false, narrowed := true }
def PackGetsUptoSaid : Prop := packGetsUptoRow.holds Try.pinned (OpenSpec.upto packGetsSpec)

/-- 'levylaw7.PackRound', WHERE WHAT IT READS IS OF BULK AT MOST 1048576: true; the input reads as it did. -/
def packRoundUptoRow : OpenClaim := { program := "ytpbdkkahodaloaa", sum := "6f55c4122a2a8a03d0a14e1599ac8d7e24c728b7abf4d265b3b0cffab72923c9", func := "levy/levylaw7.PackRound", spec := "packRound", unfollowed := true, recurses := true, loops := true, apart := false, narrowed := true }
def PackRoundUptoSaid : Prop := packRoundUptoRow.holds Try.pinned (OpenSpec.upto packRoundSpec)

/-- 'levylaw7.PackOne', WHERE WHAT IT READS IS OF BULK AT MOST 1048576: true; the input reads as it did. -/
def packOneUptoRow : OpenClaim := { program := "ytpbdkkahodaloaa", sum := "6f55c4122a2a8a03d0a14e1599ac8d7e24c728b7abf4d265b3b0cffab72923c9", func := "levy/levylaw7.PackOne", spec := "packOne", unfollowed := true, recurses := true, apart := false, narrowed := true }
def PackOneUptoSaid : Prop := packOneUptoRow.holds Try.pinned (OpenSpec.upto packOneSpec)

/-- 'levylaw7.PackUnlike', WHERE WHAT IT READS IS OF BULK AT MOST 1048576: true; the input reads as it did. -/
def packUnlikeUptoRow : OpenClaim := { program := "ytpbdkkahodaloaa", sum := "6f55c4122a2a8a03d0a14e1599ac8d7e24c728b7abf4d265b3b0cffab72923c9", func := "levy/levylaw7.PackUnlike", spec := "packUnlike", unfollowed := true, recurses := true, loops := true, apart := false, narrowed := true }
def PackUnlikeUptoSaid : Prop := packUnlikeUptoRow.holds Try.pinned (OpenSpec.upto packUnlikeSpec)

/-- 'levylaw7.PackTorn', WHERE WHAT IT READS IS OF BULK AT MOST 1048576: true; the input reads as it did. -/
def packTornUptoRow : OpenClaim := { program := "ytpbdkkahodaloaa", sum := "6f55c4122a2a8a03d0a14e1599ac8d7e24c728b7abf4d265b3b0cffab72923c9", func := "levy/levylaw7.PackTorn", spec := "packTorn", unfollowed := true, recurses := true, loops := true, apart := false, narrowed := true }
def PackTornUptoSaid : Prop := packTornUptoRow.holds Try.pinned (OpenSpec.upto packTornSpec)

/-- 'levylaw7.PackFits', WHERE WHAT IT READS IS OF BULK AT MOST 1048576: true; the input reads as it did. -/
def packFitsUptoRow : OpenClaim := { program := "ytpbdkkahodaloaa", sum := "6f55c4122a2a8a03d0a14e1599ac8d7e24c728b7abf4d265b3b0cffab72923c9", func := "levy/levylaw7.PackFits", spec := "packFits", unfollowed := true, recurses := true, loops := true, apart := false, narrowed := true }
def PackFitsUptoSaid : Prop := packFitsUptoRow.holds Try.pinned (OpenSpec.upto packFitsSpec)

end Rows
end Go.Proofs.Ytpbdkkahodaloaa
