/-
  NARROWER THAN 'FOR EVERY INPUT', by the rows' own cells (each row's printed sentence says how): MoneyValids: laid · MoneySums: laid · MoneyAdds: laid · MoneyClamps: laid · MoneyCompares: laid · MoneyRounds: laid · MoneyTimes: laid · MoneyBrackets: laid · MoneySplits: laid · MoneyScales: laid · MoneyNear: laid · MoneyBands: laid · MoneyBack: laid · MoneySafe: laid · MoneyPlays: laid.
  DERIVED. THE GIVEN ROWS OF THIS SEAT. 15 by the template 'for every input the law returns true; each argument reads behind the call as it read before'; 0 by the template 'total and deterministic' (their statements: YtnjhjaifmgjljaaDoorTotals.lean).
  GIVEN WITH THE SEED: the statements are not yours to turn. If you find one false, say at which input.
  Laid BY PROGRAM, IN A SANDBOX (cutbox-rows.mjs): the forced cells as the released guide's own fill.sh prints them over the translation 569e55d4465be80e… (all of the seat's roots in one cut). By AI agents, Wed Nov 11 2026. No macro, syntax, notation, axiom, sorry.
-/
import Derived.Test.YtnjhjaifmgjljaaDoorChecked
import GoSem.Claim
import GoSem.ClaimJoined
import GoSem.ClaimMapViews
import Derived.JoinedTies
import Derived.KernelRfl
namespace Go.Proofs.YtnjhjaifmgjljaaDoor
/- THE CELL 'sum', in the pinned program and in every row, IS THE sha256 OF THE DUMP (.gsa) THAT YtnjhjaifmgjljaaDoorProg.lean LOADS. Nothing in Lean hashes anything: it is a label: what it is worth is what the hold of that sum in a sandbox is worth. -/
noncomputable def Tryd.pinned : Pinned := { name := "ytnjhjaifmgjljaadoor", sum := "569e55d4465be80e6818cbd10311ada9d60b8bfc73840669ed67448aabbbaeeb", checked := Tryd.checked }
namespace Rows
def none {H : Type} : Left H := { results := [], args := [] }

/- WHAT THE LISTED PACKAGE-LEVEL VARIABLES READ AS WHEN THE CALL BEGINS. Each datum BY PROGRAM (the guide's laid-datum.mjs) off the statement by which the dump's own 'gosem.cut.vars' lays the variable. In a bare row this is a premise. The card (YtnjhjaifmgjljaaDoorCards.lean) ties it to the program's text. -/
def laid_levy_money_kinds {H : Type} : DataW H := .agg [.agg [.lit (.int .i64 0), .lit (.int .i64 0), .lit (.int .i64 0)], .agg [.lit (.int .i64 (-9999999999999)), .lit (.int .i64 9999999999999), .lit (.int .i64 7)], .agg [.lit (.int .i64 (-1000000000)), .lit (.int .i64 1000000000), .lit (.int .i64 7)], .agg [.lit (.int .i64 0), .lit (.int .i64 1), .lit (.int .i64 4)], .agg [.lit (.int .i64 0), .lit (.int .i64 109572), .lit (.int .i64 6)], .agg [.lit (.int .i64 0), .lit (.int .i64 7), .lit (.int .i64 4)], .agg [.lit (.int .i64 1), .lit (.int .i64 5), .lit (.int .i64 0)]]

/-- 'levylaw1.MoneyValids': WHATEVER THE INPUT: true; the input reads as it did. -/
def moneyValidsSpec : ChangeSpec := { name := "moneyValids", fn := fun _ => fun
  | [d] => { results := [.lit (.bool true)], args := [d] }
  | _ => none }
def moneyValidsRow : OpenClaim := { program := "ytnjhjaifmgjljaadoor", sum := "569e55d4465be80e6818cbd10311ada9d60b8bfc73840669ed67448aabbbaeeb", func := "levy/levylaw1.MoneyValids", spec := "moneyValids", named := ["levy/money.kinds"], apart := false, laid := [("levy/money.kinds", laid_levy_money_kinds)] }
def MoneyValidsSaid : Prop := moneyValidsRow.holds Tryd.pinned (OpenSpec.ofChange moneyValidsSpec)

/-- ITS FALSE NEIGHBOUR: 'it returns false'. Refute it at one input. -/
def moneyValidsWrong : ChangeSpec := { name := "moneyValids", fn := fun _ => fun
  | [d] => { results := [.lit (.bool false)], args := [d] }
  | _ => none }
def MoneyValidsWrongFalsely : Prop := moneyValidsRow.holds Tryd.pinned (OpenSpec.ofChange moneyValidsWrong)

/-- 'levylaw1.MoneySums': WHATEVER THE INPUT: true; the input reads as it did. -/
def moneySumsSpec : ChangeSpec := { name := "moneySums", fn := fun _ => fun
  | [d1, d2] => { results := [.lit (.bool true)], args := [d1, d2] }
  | _ => none }
def moneySumsRow : OpenClaim := { program := "ytnjhjaifmgjljaadoor", sum := "569e55d4465be80e6818cbd10311ada9d60b8bfc73840669ed67448aabbbaeeb", func := "levy/levylaw1.MoneySums", spec := "moneySums", unfollowed := true, recurses := true, named := ["levy/money.kinds"], apart := false, laid := [("levy/money.kinds", laid_levy_money_kinds)] }
def MoneySumsSaid : Prop := moneySumsRow.holds Tryd.pinned (OpenSpec.ofChange moneySumsSpec)

/-- ITS FALSE NEIGHBOUR: 'it returns false'. Refute it at one input. -/
def moneySumsWrong : ChangeSpec := { name := "moneySums", fn := fun _ => fun
  | [d1, d2] => { results := [.lit (.bool false)], args := [d1, d2] }
  | _ => none }
def MoneySumsWrongFalsely : Prop := moneySumsRow.holds Tryd.pinned (OpenSpec.ofChange moneySumsWrong)

/-- 'levylaw1.MoneyAdds': WHATEVER THE INPUT: true; the input reads as it did. -/
def moneyAddsSpec : ChangeSpec := { name := "moneyAdds", fn := fun _ => fun
  | [d1, d2] => { results := [.lit (.bool true)], args := [d1, d2] }
  | _ => none }
def moneyAddsRow : OpenClaim := { program := "ytnjhjaifmgjljaadoor", sum := "569e55d4465be80e6818cbd10311ada9d60b8bfc73840669ed67448aabbbaeeb", func := "levy/levylaw1.MoneyAdds", spec := "moneyAdds", named := ["levy/money.kinds"], apart := false, laid := [("levy/money.kinds", laid_levy_money_kinds)] }
def MoneyAddsSaid : Prop := moneyAddsRow.holds Tryd.pinned (OpenSpec.ofChange moneyAddsSpec)

/-- ITS FALSE NEIGHBOUR: 'it returns false'. Refute it at one input. -/
def moneyAddsWrong : ChangeSpec := { name := "moneyAdds", fn := fun _ => fun
  | [d1, d2] => { results := [.lit (.bool false)], args := [d1, d2] }
  | _ => none }
def MoneyAddsWrongFalsely : Prop := moneyAddsRow.holds Tryd.pinned (OpenSpec.ofChange moneyAddsWrong)

/-- 'levylaw1.MoneyClamps': WHATEVER THE INPUT: true; the input reads as it did. -/
def moneyClampsSpec : ChangeSpec := { name := "moneyClamps", fn := fun _ => fun
  | [d1, d2, d3] => { results := [.lit (.bool true)], args := [d1, d2, d3] }
  | _ => none }
def moneyClampsRow : OpenClaim := { program := "ytnjhjaifmgjljaadoor", sum := "569e55d4465be80e6818cbd10311ada9d60b8bfc73840669ed67448aabbbaeeb", func := "levy/levylaw1.MoneyClamps", spec := "moneyClamps", named := ["levy/money.kinds"], apart := false, laid := [("levy/money.kinds", laid_levy_money_kinds)] }
def MoneyClampsSaid : Prop := moneyClampsRow.holds Tryd.pinned (OpenSpec.ofChange moneyClampsSpec)

/-- ITS FALSE NEIGHBOUR: 'it returns false'. Refute it at one input. -/
def moneyClampsWrong : ChangeSpec := { name := "moneyClamps", fn := fun _ => fun
  | [d1, d2, d3] => { results := [.lit (.bool false)], args := [d1, d2, d3] }
  | _ => none }
def MoneyClampsWrongFalsely : Prop := moneyClampsRow.holds Tryd.pinned (OpenSpec.ofChange moneyClampsWrong)

/-- 'levylaw1.MoneyCompares': WHATEVER THE INPUT: true; the input reads as it did. -/
def moneyComparesSpec : ChangeSpec := { name := "moneyCompares", fn := fun _ => fun
  | [d1, d2, d3] => { results := [.lit (.bool true)], args := [d1, d2, d3] }
  | _ => none }
def moneyComparesRow : OpenClaim := { program := "ytnjhjaifmgjljaadoor", sum := "569e55d4465be80e6818cbd10311ada9d60b8bfc73840669ed67448aabbbaeeb", func := "levy/levylaw1.MoneyCompares", spec := "moneyCompares", named := ["levy/money.kinds"], apart := false, laid := [("levy/money.kinds", laid_levy_money_kinds)] }
def MoneyComparesSaid : Prop := moneyComparesRow.holds Tryd.pinned (OpenSpec.ofChange moneyComparesSpec)

/-- ITS FALSE NEIGHBOUR: 'it returns false'. Refute it at one input. -/
def moneyComparesWrong : ChangeSpec := { name := "moneyCompares", fn := fun _ => fun
  | [d1, d2, d3] => { results := [.lit (.bool false)], args := [d1, d2, d3] }
  | _ => none }
def MoneyComparesWrongFalsely : Prop := moneyComparesRow.holds Tryd.pinned (OpenSpec.ofChange moneyComparesWrong)

/-- 'levylaw1.MoneyRounds': WHATEVER THE INPUT: true; the input reads as it did. -/
def moneyRoundsSpec : ChangeSpec := { name := "moneyRounds", fn := fun _ => fun
  | [d1, d2, d3] => { results := [.lit (.bool true)], args := [d1, d2, d3] }
  | _ => none }
def moneyRoundsRow : OpenClaim := { program := "ytnjhjaifmgjljaadoor", sum := "569e55d4465be80e6818cbd10311ada9d60b8bfc73840669ed67448aabbbaeeb", func := "levy/levylaw1.MoneyRounds", spec := "moneyRounds", named := ["levy/money.kinds"], apart := false, laid := [("levy/money.kinds", laid_levy_money_kinds)] }
def MoneyRoundsSaid : Prop := moneyRoundsRow.holds Tryd.pinned (OpenSpec.ofChange moneyRoundsSpec)

/-- ITS FALSE NEIGHBOUR: 'it returns false'. Refute it at one input. -/
def moneyRoundsWrong : ChangeSpec := { name := "moneyRounds", fn := fun _ => fun
  | [d1, d2, d3] => { results := [.lit (.bool false)], args := [d1, d2, d3] }
  | _ => none }
def MoneyRoundsWrongFalsely : Prop := moneyRoundsRow.holds Tryd.pinned (OpenSpec.ofChange moneyRoundsWrong)

/-- 'levylaw1.MoneyTimes': WHATEVER THE INPUT: true; the input reads as it did. -/
def moneyTimesSpec : ChangeSpec := { name := "moneyTimes", fn := fun _ => fun
  | [d1, d2] => { results := [.lit (.bool true)], args := [d1, d2] }
  | _ => none }
def moneyTimesRow : OpenClaim := { program := "ytnjhjaifmgjljaadoor", sum := "569e55d4465be80e6818cbd10311ada9d60b8bfc73840669ed67448aabbbaeeb", func := "levy/levylaw1.MoneyTimes", spec := "moneyTimes", named := ["levy/money.kinds"], apart := false, laid := [("levy/money.kinds", laid_levy_money_kinds)] }
def MoneyTimesSaid : Prop := moneyTimesRow.holds Tryd.pinned (OpenSpec.ofChange moneyTimesSpec)

/-- ITS FALSE NEIGHBOUR: 'it returns false'. Refute it at one input. -/
def moneyTimesWrong : ChangeSpec := { name := "moneyTimes", fn := fun _ => fun
  | [d1, d2] => { results := [.lit (.bool false)], args := [d1, d2] }
  | _ => none }
def MoneyTimesWrongFalsely : Prop := moneyTimesRow.holds Tryd.pinned (OpenSpec.ofChange moneyTimesWrong)

/-- 'levylaw1.MoneyBrackets': WHATEVER THE INPUT: true; the input reads as it did. -/
def moneyBracketsSpec : ChangeSpec := { name := "moneyBrackets", fn := fun _ => fun
  | [d1, d2] => { results := [.lit (.bool true)], args := [d1, d2] }
  | _ => none }
def moneyBracketsRow : OpenClaim := { program := "ytnjhjaifmgjljaadoor", sum := "569e55d4465be80e6818cbd10311ada9d60b8bfc73840669ed67448aabbbaeeb", func := "levy/levylaw1.MoneyBrackets", spec := "moneyBrackets", named := ["levy/money.kinds"], apart := false, laid := [("levy/money.kinds", laid_levy_money_kinds)] }
def MoneyBracketsSaid : Prop := moneyBracketsRow.holds Tryd.pinned (OpenSpec.ofChange moneyBracketsSpec)

/-- ITS FALSE NEIGHBOUR: 'it returns false'. Refute it at one input. -/
def moneyBracketsWrong : ChangeSpec := { name := "moneyBrackets", fn := fun _ => fun
  | [d1, d2] => { results := [.lit (.bool false)], args := [d1, d2] }
  | _ => none }
def MoneyBracketsWrongFalsely : Prop := moneyBracketsRow.holds Tryd.pinned (OpenSpec.ofChange moneyBracketsWrong)

/-- 'levylaw1.MoneySplits': WHATEVER THE INPUT: true; the input reads as it did. -/
def moneySplitsSpec : ChangeSpec := { name := "moneySplits", fn := fun _ => fun
  | [d1, d2, d3] => { results := [.lit (.bool true)], args := [d1, d2, d3] }
  | _ => none }
def moneySplitsRow : OpenClaim := { program := "ytnjhjaifmgjljaadoor", sum := "569e55d4465be80e6818cbd10311ada9d60b8bfc73840669ed67448aabbbaeeb", func := "levy/levylaw1.MoneySplits", spec := "moneySplits", named := ["levy/money.kinds"], apart := false, laid := [("levy/money.kinds", laid_levy_money_kinds)] }
def MoneySplitsSaid : Prop := moneySplitsRow.holds Tryd.pinned (OpenSpec.ofChange moneySplitsSpec)

/-- ITS FALSE NEIGHBOUR: 'it returns false'. Refute it at one input. -/
def moneySplitsWrong : ChangeSpec := { name := "moneySplits", fn := fun _ => fun
  | [d1, d2, d3] => { results := [.lit (.bool false)], args := [d1, d2, d3] }
  | _ => none }
def MoneySplitsWrongFalsely : Prop := moneySplitsRow.holds Tryd.pinned (OpenSpec.ofChange moneySplitsWrong)

/-- 'levylaw1.MoneyScales': WHATEVER THE INPUT: true; the input reads as it did. -/
def moneyScalesSpec : ChangeSpec := { name := "moneyScales", fn := fun _ => fun
  | [d1, d2, d3, d4] => { results := [.lit (.bool true)], args := [d1, d2, d3, d4] }
  | _ => none }
def moneyScalesRow : OpenClaim := { program := "ytnjhjaifmgjljaadoor", sum := "569e55d4465be80e6818cbd10311ada9d60b8bfc73840669ed67448aabbbaeeb", func := "levy/levylaw1.MoneyScales", spec := "moneyScales", named := ["levy/money.kinds", "math/bits.divideError", "math/bits.overflowError"], apart := false, laid := [("levy/money.kinds", laid_levy_money_kinds)] }
def MoneyScalesSaid : Prop := moneyScalesRow.holds Tryd.pinned (OpenSpec.ofChange moneyScalesSpec)

/-- ITS FALSE NEIGHBOUR: 'it returns false'. Refute it at one input. -/
def moneyScalesWrong : ChangeSpec := { name := "moneyScales", fn := fun _ => fun
  | [d1, d2, d3, d4] => { results := [.lit (.bool false)], args := [d1, d2, d3, d4] }
  | _ => none }
def MoneyScalesWrongFalsely : Prop := moneyScalesRow.holds Tryd.pinned (OpenSpec.ofChange moneyScalesWrong)

/-- 'levylaw1.MoneyNear': WHATEVER THE INPUT: true; the input reads as it did. -/
def moneyNearSpec : ChangeSpec := { name := "moneyNear", fn := fun _ => fun
  | [d1, d2, d3, d4] => { results := [.lit (.bool true)], args := [d1, d2, d3, d4] }
  | _ => none }
def moneyNearRow : OpenClaim := { program := "ytnjhjaifmgjljaadoor", sum := "569e55d4465be80e6818cbd10311ada9d60b8bfc73840669ed67448aabbbaeeb", func := "levy/levylaw1.MoneyNear", spec := "moneyNear", named := ["levy/money.kinds", "math/bits.divideError", "math/bits.overflowError"], apart := false, laid := [("levy/money.kinds", laid_levy_money_kinds)] }
def MoneyNearSaid : Prop := moneyNearRow.holds Tryd.pinned (OpenSpec.ofChange moneyNearSpec)

/-- ITS FALSE NEIGHBOUR: 'it returns false'. Refute it at one input. -/
def moneyNearWrong : ChangeSpec := { name := "moneyNear", fn := fun _ => fun
  | [d1, d2, d3, d4] => { results := [.lit (.bool false)], args := [d1, d2, d3, d4] }
  | _ => none }
def MoneyNearWrongFalsely : Prop := moneyNearRow.holds Tryd.pinned (OpenSpec.ofChange moneyNearWrong)

/-- 'levylaw1.MoneyBands': WHATEVER THE INPUT: true; the input reads as it did. -/
def moneyBandsSpec : ChangeSpec := { name := "moneyBands", fn := fun _ => fun
  | [d1, d2, d3, d4] => { results := [.lit (.bool true)], args := [d1, d2, d3, d4] }
  | _ => none }
def moneyBandsRow : OpenClaim := { program := "ytnjhjaifmgjljaadoor", sum := "569e55d4465be80e6818cbd10311ada9d60b8bfc73840669ed67448aabbbaeeb", func := "levy/levylaw1.MoneyBands", spec := "moneyBands", named := ["levy/money.kinds", "math/bits.divideError", "math/bits.overflowError"], apart := false, laid := [("levy/money.kinds", laid_levy_money_kinds)] }
def MoneyBandsSaid : Prop := moneyBandsRow.holds Tryd.pinned (OpenSpec.ofChange moneyBandsSpec)

/-- ITS FALSE NEIGHBOUR: 'it returns false'. Refute it at one input. -/
def moneyBandsWrong : ChangeSpec := { name := "moneyBands", fn := fun _ => fun
  | [d1, d2, d3, d4] => { results := [.lit (.bool false)], args := [d1, d2, d3, d4] }
  | _ => none }
def MoneyBandsWrongFalsely : Prop := moneyBandsRow.holds Tryd.pinned (OpenSpec.ofChange moneyBandsWrong)

/-- 'levylaw1.MoneyBack': WHATEVER THE INPUT: true; the input reads as it did. -/
def moneyBackSpec : ChangeSpec := { name := "moneyBack", fn := fun _ => fun
  | [d1, d2] => { results := [.lit (.bool true)], args := [d1, d2] }
  | _ => none }
def moneyBackRow : OpenClaim := { program := "ytnjhjaifmgjljaadoor", sum := "569e55d4465be80e6818cbd10311ada9d60b8bfc73840669ed67448aabbbaeeb", func := "levy/levylaw1.MoneyBack", spec := "moneyBack", named := ["levy/money.kinds", "math/bits.divideError", "math/bits.overflowError"], apart := false, laid := [("levy/money.kinds", laid_levy_money_kinds)] }
def MoneyBackSaid : Prop := moneyBackRow.holds Tryd.pinned (OpenSpec.ofChange moneyBackSpec)

/-- ITS FALSE NEIGHBOUR: 'it returns false'. Refute it at one input. -/
def moneyBackWrong : ChangeSpec := { name := "moneyBack", fn := fun _ => fun
  | [d1, d2] => { results := [.lit (.bool false)], args := [d1, d2] }
  | _ => none }
def MoneyBackWrongFalsely : Prop := moneyBackRow.holds Tryd.pinned (OpenSpec.ofChange moneyBackWrong)

/-- 'levylaw1.MoneySafe': WHATEVER THE INPUT: true; the input reads as it did. -/
def moneySafeSpec : ChangeSpec := { name := "moneySafe", fn := fun _ => fun
  | [d] => { results := [.lit (.bool true)], args := [d] }
  | _ => none }
def moneySafeRow : OpenClaim := { program := "ytnjhjaifmgjljaadoor", sum := "569e55d4465be80e6818cbd10311ada9d60b8bfc73840669ed67448aabbbaeeb", func := "levy/levylaw1.MoneySafe", spec := "moneySafe", unfollowed := true, recurses := true, named := ["levy/money.kinds", "math/bits.divideError", "math/bits.overflowError"], apart := false, laid := [("levy/money.kinds", laid_levy_money_kinds)] }
def MoneySafeSaid : Prop := moneySafeRow.holds Tryd.pinned (OpenSpec.ofChange moneySafeSpec)

/-- ITS FALSE NEIGHBOUR: 'it returns false'. Refute it at one input. -/
def moneySafeWrong : ChangeSpec := { name := "moneySafe", fn := fun _ => fun
  | [d] => { results := [.lit (.bool false)], args := [d] }
  | _ => none }
def MoneySafeWrongFalsely : Prop := moneySafeRow.holds Tryd.pinned (OpenSpec.ofChange moneySafeWrong)

/-- 'levylaw1.MoneyPlays': WHATEVER THE INPUT: true; the input reads as it did. -/
def moneyPlaysSpec : ChangeSpec := { name := "moneyPlays", fn := fun _ => fun
  | [d] => { results := [.lit (.bool true)], args := [d] }
  | _ => none }
def moneyPlaysRow : OpenClaim := { program := "ytnjhjaifmgjljaadoor", sum := "569e55d4465be80e6818cbd10311ada9d60b8bfc73840669ed67448aabbbaeeb", func := "levy/levylaw1.MoneyPlays", spec := "moneyPlays", unfollowed := true, recurses := true, named := ["levy/money.kinds", "math/bits.divideError", "math/bits.overflowError"], apart := false, laid := [("levy/money.kinds", laid_levy_money_kinds)] }
def MoneyPlaysSaid : Prop := moneyPlaysRow.holds Tryd.pinned (OpenSpec.ofChange moneyPlaysSpec)

/-- ITS FALSE NEIGHBOUR: 'it returns false'. Refute it at one input. -/
def moneyPlaysWrong : ChangeSpec := { name := "moneyPlays", fn := fun _ => fun
  | [d] => { results := [.lit (.bool false)], args := [d] }
  | _ => none }
def MoneyPlaysWrongFalsely : Prop := moneyPlaysRow.holds Tryd.pinned (OpenSpec.ofChange moneyPlaysWrong)

/- THE SECOND FORM. 'bulk': how many values and letters a reading holds, each counted each time it is reached (what is shared counts as often as it is met; a slice's spare places count too). A statement '..UptoSaid' is the law's where the arguments, and the package variables that the reading takes, are together of bulk at most 1048576: NARROWER than '..Said'. Prove '..Said' where nothing that the law and all that it calls make is longer than what came in: it says more and counts as full. Else prove '..UptoSaid'. A law counts once. -/
mutual
def uptoBulk {H : Type} : DataW H → Nat
  | .lit (.string bytes) => bytes.length + 1
  | .lit _ => 1
  | .nil => 1
  | .ptr d => uptoBulk d + 1
  | .slice elems spare => uptoBulkAll elems + uptoBulkAll spare + 1
  | .agg parts => uptoBulkAll parts + 1
  | .iface _ d => uptoBulk d + 1
  | .map entries => uptoBulkEntries entries + 1
  | .held _ => 1
def uptoBulkAll {H : Type} : List (DataW H) → Nat
  | [] => 0
  | d :: r => uptoBulk d + uptoBulkAll r
def uptoBulkEntries {H : Type} : List (Lit × DataW H) → Nat
  | [] => 0
  | x :: r => uptoBulkEntry x + uptoBulkEntries r
def uptoBulkEntry {H : Type} : Lit × DataW H → Nat
  | (.string bytes, d) => bytes.length + uptoBulk d + 1
  | (_, d) => uptoBulk d + 1
 end
def uptoSmall : (H : Type) → List (DataW H) → Bool := fun _ ds => decide (uptoBulkAll ds ≤ 1048576)
def OpenSpec.upto (s : _root_.Go.ChangeSpec) : _root_.Go.OpenSpec := { _root_.Go.OpenSpec.ofChange s with cond := some uptoSmall }

/-- 'levylaw1.MoneyValids', WHERE WHAT IT READS IS OF BULK AT MOST 1048576: true; the input reads as it did. -/
def moneyValidsUptoRow : OpenClaim := { program := "ytnjhjaifmgjljaadoor", sum := "569e55d4465be80e6818cbd10311ada9d60b8bfc73840669ed67448aabbbaeeb", func := "levy/levylaw1.MoneyValids", spec := "moneyValids", named := ["levy/money.kinds"], apart := false, laid := [("levy/money.kinds", laid_levy_money_kinds)], narrowed := true }
def MoneyValidsUptoSaid : Prop := moneyValidsUptoRow.holds Tryd.pinned (OpenSpec.upto moneyValidsSpec)

/-- 'levylaw1.MoneySums', WHERE WHAT IT READS IS OF BULK AT MOST 1048576: true; the input reads as it did. -/
def moneySumsUptoRow : OpenClaim := { program := "ytnjhjaifmgjljaadoor", sum := "569e55d4465be80e6818cbd10311ada9d60b8bfc73840669ed67448aabbbaeeb", func := "levy/levylaw1.MoneySums", spec := "moneySums", unfollowed := true, recurses := true, named := ["levy/money.kinds"], apart := false, laid := [("levy/money.kinds", laid_levy_money_kinds)], narrowed := true }
def MoneySumsUptoSaid : Prop := moneySumsUptoRow.holds Tryd.pinned (OpenSpec.upto moneySumsSpec)

/-- 'levylaw1.MoneyAdds', WHERE WHAT IT READS IS OF BULK AT MOST 1048576: true; the input reads as it did. -/
def moneyAddsUptoRow : OpenClaim := { program := "ytnjhjaifmgjljaadoor", sum := "569e55d4465be80e6818cbd10311ada9d60b8bfc73840669ed67448aabbbaeeb", func := "levy/levylaw1.MoneyAdds", spec := "moneyAdds", named := ["levy/money.kinds"], apart := false, laid := [("levy/money.kinds", laid_levy_money_kinds)], narrowed := true }
def MoneyAddsUptoSaid : Prop := moneyAddsUptoRow.holds Tryd.pinned (OpenSpec.upto moneyAddsSpec)

/-- 'levylaw1.MoneyClamps', WHERE WHAT IT READS IS OF BULK AT MOST 1048576: true; the input reads as it did. -/
def moneyClampsUptoRow : OpenClaim := { program := "ytnjhjaifmgjljaadoor", sum := "569e55d4465be80e6818cbd10311ada9d60b8bfc73840669ed67448aabbbaeeb", func := "levy/levylaw1.MoneyClamps", spec := "moneyClamps", named := ["levy/money.kinds"], apart := false, laid := [("levy/money.kinds", laid_levy_money_kinds)], narrowed := true }
def MoneyClampsUptoSaid : Prop := moneyClampsUptoRow.holds Tryd.pinned (OpenSpec.upto moneyClampsSpec)

/-- 'levylaw1.MoneyCompares', WHERE WHAT IT READS IS OF BULK AT MOST 1048576: true; the input reads as it did. -/
def moneyComparesUptoRow : OpenClaim := { program := "ytnjhjaifmgjljaadoor", sum := "569e55d4465be80e6818cbd10311ada9d60b8bfc73840669ed67448aabbbaeeb", func := "levy/levylaw1.MoneyCompares", spec := "moneyCompares", named := ["levy/money.kinds"], apart := false, laid := [("levy/money.kinds", laid_levy_money_kinds)], narrowed := true }
def MoneyComparesUptoSaid : Prop := moneyComparesUptoRow.holds Tryd.pinned (OpenSpec.upto moneyComparesSpec)

/-- 'levylaw1.MoneyRounds', WHERE WHAT IT READS IS OF BULK AT MOST 1048576: true; the input reads as it did. -/
def moneyRoundsUptoRow : OpenClaim := { program := "ytnjhjaifmgjljaadoor", sum := "569e55d4465be80e6818cbd10311ada9d60b8bfc73840669ed67448aabbbaeeb", func := "levy/levylaw1.MoneyRounds", spec := "moneyRounds", named := ["levy/money.kinds"], apart := false, laid := [("levy/money.kinds", laid_levy_money_kinds)], narrowed := true }
def MoneyRoundsUptoSaid : Prop := moneyRoundsUptoRow.holds Tryd.pinned (OpenSpec.upto moneyRoundsSpec)

/-- 'levylaw1.MoneyTimes', WHERE WHAT IT READS IS OF BULK AT MOST 1048576: true; the input reads as it did. -/
def moneyTimesUptoRow : OpenClaim := { program := "ytnjhjaifmgjljaadoor", sum := "569e55d4465be80e6818cbd10311ada9d60b8bfc73840669ed67448aabbbaeeb", func := "levy/levylaw1.MoneyTimes", spec := "moneyTimes", named := ["levy/money.kinds"], apart := false, laid := [("levy/money.kinds", laid_levy_money_kinds)], narrowed := true }
def MoneyTimesUptoSaid : Prop := moneyTimesUptoRow.holds Tryd.pinned (OpenSpec.upto moneyTimesSpec)

/-- 'levylaw1.MoneyBrackets', WHERE WHAT IT READS IS OF BULK AT MOST 1048576: true; the input reads as it did. -/
def moneyBracketsUptoRow : OpenClaim := { program := "ytnjhjaifmgjljaadoor", sum := "569e55d4465be80e6818cbd10311ada9d60b8bfc73840669ed67448aabbbaeeb", func := "levy/levylaw1.MoneyBrackets", spec := "moneyBrackets", named := ["levy/money.kinds"], apart := false, laid := [("levy/money.kinds", laid_levy_money_kinds)], narrowed := true }
def MoneyBracketsUptoSaid : Prop := moneyBracketsUptoRow.holds Tryd.pinned (OpenSpec.upto moneyBracketsSpec)

/-- 'levylaw1.MoneySplits', WHERE WHAT IT READS IS OF BULK AT MOST 1048576: true; the input reads as it did. -/
def moneySplitsUptoRow : OpenClaim := { program := "ytnjhjaifmgjljaadoor", sum := "569e55d4465be80e6818cbd10311ada9d60b8bfc73840669ed67448aabbbaeeb", func := "levy/levylaw1.MoneySplits", spec := "moneySplits", named := ["levy/money.kinds"], apart := false, laid := [("levy/money.kinds", laid_levy_money_kinds)], narrowed := true }
def MoneySplitsUptoSaid : Prop := moneySplitsUptoRow.holds Tryd.pinned (OpenSpec.upto moneySplitsSpec)

/-- 'levylaw1.MoneyScales', WHERE WHAT IT READS IS OF BULK AT MOST 1048576: true; the input reads as it did. -/
def moneyScalesUptoRow : OpenClaim := { program := "ytnjhjaifmgjljaadoor", sum := "569e55d4465be80e6818cbd10311ada9d60b8bfc73840669ed67448aabbbaeeb", func := "levy/levylaw1.MoneyScales", spec := "moneyScales", named := ["levy/money.kinds", "math/bits.divideError", "math/bits.overflowError"], apart := false, laid := [("levy/money.kinds", laid_levy_money_kinds)], narrowed := true }
def MoneyScalesUptoSaid : Prop := moneyScalesUptoRow.holds Tryd.pinned (OpenSpec.upto moneyScalesSpec)

/-- 'levylaw1.MoneyNear', WHERE WHAT IT READS IS OF BULK AT MOST 1048576: true; the input reads as it did. -/
def moneyNearUptoRow : OpenClaim := { program := "ytnjhjaifmgjljaadoor", sum := "569e55d4465be80e6818cbd10311ada9d60b8bfc73840669ed67448aabbbaeeb", func := "levy/levylaw1.MoneyNear", spec := "moneyNear", named := ["levy/money.kinds", "math/bits.divideError", "math/bits.overflowError"], apart := false, laid := [("levy/money.kinds", laid_levy_money_kinds)], narrowed := true }
def MoneyNearUptoSaid : Prop := moneyNearUptoRow.holds Tryd.pinned (OpenSpec.upto moneyNearSpec)

/-- 'levylaw1.MoneyBands', WHERE WHAT IT READS IS OF BULK AT MOST 1048576: true; the input reads as it did. -/
def moneyBandsUptoRow : OpenClaim := { program := "ytnjhjaifmgjljaadoor", sum := "569e55d4465be80e6818cbd10311ada9d60b8bfc73840669ed67448aabbbaeeb", func := "levy/levylaw1.MoneyBands", spec := "moneyBands", named := ["levy/money.kinds", "math/bits.divideError", "math/bits.overflowError"], apart := false, laid := [("levy/money.kinds", laid_levy_money_kinds)], narrowed := true }
def MoneyBandsUptoSaid : Prop := moneyBandsUptoRow.holds Tryd.pinned (OpenSpec.upto moneyBandsSpec)

/-- 'levylaw1.MoneyBack', WHERE WHAT IT READS IS OF BULK AT MOST 1048576: true; the input reads as it did. -/
def moneyBackUptoRow : OpenClaim := { program := "ytnjhjaifmgjljaadoor", sum := "569e55d4465be80e6818cbd10311ada9d60b8bfc73840669ed67448aabbbaeeb", func := "levy/levylaw1.MoneyBack", spec := "moneyBack", named := ["levy/money.kinds", "math/bits.divideError", "math/bits.overflowError"], apart := false, laid := [("levy/money.kinds", laid_levy_money_kinds)], narrowed := true }
def MoneyBackUptoSaid : Prop := moneyBackUptoRow.holds Tryd.pinned (OpenSpec.upto moneyBackSpec)

/-- 'levylaw1.MoneySafe', WHERE WHAT IT READS IS OF BULK AT MOST 1048576: true; the input reads as it did. -/
def moneySafeUptoRow : OpenClaim := { program := "ytnjhjaifmgjljaadoor", sum := "569e55d4465be80e6818cbd10311ada9d60b8bfc73840669ed67448aabbbaeeb", func := "levy/levylaw1.MoneySafe", spec := "moneySafe", unfollowed := true, recurses := true, named := ["levy/money.kinds", "math/bits.divideError", "math/bits.overflowError"], apart := false, laid := [("levy/money.kinds", laid_levy_money_kinds)], narrowed := true }
def MoneySafeUptoSaid : Prop := moneySafeUptoRow.holds Tryd.pinned (OpenSpec.upto moneySafeSpec)

/-- 'levylaw1.MoneyPlays', WHERE WHAT IT READS IS OF BULK AT MOST 1048576: true; the input reads as it did. -/
def moneyPlaysUptoRow : OpenClaim := { program := "ytnjhjaifmgjljaadoor", sum := "569e55d4465be80e6818cbd10311ada9d60b8bfc73840669ed67448aabbbaeeb", func := "levy/levylaw1.MoneyPlays", spec := "moneyPlays", unfollowed := true, recurses := true, named := ["levy/money.kinds", "math/bits.divideError", "math/bits.overflowError"], apart := false, laid := [("levy/money.kinds", laid_levy_money_kinds)], narrowed := true }
def MoneyPlaysUptoSaid : Prop := moneyPlaysUptoRow.holds Tryd.pinned (OpenSpec.upto moneyPlaysSpec)

end Rows
end Go.Proofs.YtnjhjaifmgjljaaDoor
