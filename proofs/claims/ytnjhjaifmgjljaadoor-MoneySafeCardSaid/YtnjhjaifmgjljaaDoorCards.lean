/-
  DERIVED. GIVEN WITH THE SEED: THE CARDS: each row of YtnjhjaifmgjljaaDoorRows.lean that lists a variable, with what it lists TIED to the program's text (the seventh form; the later family's looks); each row that meets fmt, with fmt's text TOLD by the authors' own Lean function (tested against real Go, not proved from fmt's source: count such statements apart). THE CARD IS WHAT COUNTS. Prove the row's statement (the work); the ties are given (YtnjhjaifmgjljaaDoorTie.lean); close each card by the builder's one call (the guide's Derived/Test/ToyasCard.lean, 'card_holds'). Laid BY PROGRAM, IN A SANDBOX (cutbox-door.mjs). By AI agents, Wed Nov 11 2026. No macro, syntax, notation, axiom, sorry.
-/
import Derived.Test.YtnjhjaifmgjljaaDoorRows
import GoSem.ClaimSeven
namespace Go.Proofs.YtnjhjaifmgjljaaDoor
namespace Rows

/-- THE TIED CARD OF 'levylaw1.MoneyValids'. -/
def moneyValidsCard : Claim7 := { stood := { row := moneyValidsRow, standIns := [], harness := (true, "386f80bac50f6b510e3885cc7e1d8a0468756c8cdb987415c50f2036d8d56f38"), looks := false }, kinds := [], alts := [], laidByText := true, laidKinds := [.data], laidTests := true, laidLooks := .later }
def MoneyValidsCardSaid : Prop := Claim7.holds Tryd.pinned (.plain (OpenSpec.ofChange moneyValidsSpec)) moneyValidsCard

/-- THE TIED CARD OF 'levylaw1.MoneySums'. -/
def moneySumsCard : Claim7 := { stood := { row := moneySumsRow, standIns := [], harness := (true, "386f80bac50f6b510e3885cc7e1d8a0468756c8cdb987415c50f2036d8d56f38"), looks := false }, kinds := [], alts := [], laidByText := true, laidKinds := [.data], laidTests := true, laidLooks := .later }
def MoneySumsCardSaid : Prop := Claim7.holds Tryd.pinned (.plain (OpenSpec.ofChange moneySumsSpec)) moneySumsCard

/-- THE TIED CARD OF 'levylaw1.MoneyAdds'. -/
def moneyAddsCard : Claim7 := { stood := { row := moneyAddsRow, standIns := [], harness := (true, "386f80bac50f6b510e3885cc7e1d8a0468756c8cdb987415c50f2036d8d56f38"), looks := false }, kinds := [], alts := [], laidByText := true, laidKinds := [.data], laidTests := true, laidLooks := .later }
def MoneyAddsCardSaid : Prop := Claim7.holds Tryd.pinned (.plain (OpenSpec.ofChange moneyAddsSpec)) moneyAddsCard

/-- THE TIED CARD OF 'levylaw1.MoneyClamps'. -/
def moneyClampsCard : Claim7 := { stood := { row := moneyClampsRow, standIns := [], harness := (true, "386f80bac50f6b510e3885cc7e1d8a0468756c8cdb987415c50f2036d8d56f38"), looks := false }, kinds := [], alts := [], laidByText := true, laidKinds := [.data], laidTests := true, laidLooks := .later }
def MoneyClampsCardSaid : Prop := Claim7.holds Tryd.pinned (.plain (OpenSpec.ofChange moneyClampsSpec)) moneyClampsCard

/-- THE TIED CARD OF 'levylaw1.MoneyCompares'. -/
def moneyComparesCard : Claim7 := { stood := { row := moneyComparesRow, standIns := [], harness := (true, "386f80bac50f6b510e3885cc7e1d8a0468756c8cdb987415c50f2036d8d56f38"), looks := false }, kinds := [], alts := [], laidByText := true, laidKinds := [.data], laidTests := true, laidLooks := .later }
def MoneyComparesCardSaid : Prop := Claim7.holds Tryd.pinned (.plain (OpenSpec.ofChange moneyComparesSpec)) moneyComparesCard

/-- THE TIED CARD OF 'levylaw1.MoneyRounds'. -/
def moneyRoundsCard : Claim7 := { stood := { row := moneyRoundsRow, standIns := [], harness := (true, "386f80bac50f6b510e3885cc7e1d8a0468756c8cdb987415c50f2036d8d56f38"), looks := false }, kinds := [], alts := [], laidByText := true, laidKinds := [.data], laidTests := true, laidLooks := .later }
def MoneyRoundsCardSaid : Prop := Claim7.holds Tryd.pinned (.plain (OpenSpec.ofChange moneyRoundsSpec)) moneyRoundsCard

/-- THE TIED CARD OF 'levylaw1.MoneyTimes'. -/
def moneyTimesCard : Claim7 := { stood := { row := moneyTimesRow, standIns := [], harness := (true, "386f80bac50f6b510e3885cc7e1d8a0468756c8cdb987415c50f2036d8d56f38"), looks := false }, kinds := [], alts := [], laidByText := true, laidKinds := [.data], laidTests := true, laidLooks := .later }
def MoneyTimesCardSaid : Prop := Claim7.holds Tryd.pinned (.plain (OpenSpec.ofChange moneyTimesSpec)) moneyTimesCard

/-- THE TIED CARD OF 'levylaw1.MoneyBrackets'. -/
def moneyBracketsCard : Claim7 := { stood := { row := moneyBracketsRow, standIns := [], harness := (true, "386f80bac50f6b510e3885cc7e1d8a0468756c8cdb987415c50f2036d8d56f38"), looks := false }, kinds := [], alts := [], laidByText := true, laidKinds := [.data], laidTests := true, laidLooks := .later }
def MoneyBracketsCardSaid : Prop := Claim7.holds Tryd.pinned (.plain (OpenSpec.ofChange moneyBracketsSpec)) moneyBracketsCard

/-- THE TIED CARD OF 'levylaw1.MoneySplits'. -/
def moneySplitsCard : Claim7 := { stood := { row := moneySplitsRow, standIns := [], harness := (true, "386f80bac50f6b510e3885cc7e1d8a0468756c8cdb987415c50f2036d8d56f38"), looks := false }, kinds := [], alts := [], laidByText := true, laidKinds := [.data], laidTests := true, laidLooks := .later }
def MoneySplitsCardSaid : Prop := Claim7.holds Tryd.pinned (.plain (OpenSpec.ofChange moneySplitsSpec)) moneySplitsCard

/-- THE TIED CARD OF 'levylaw1.MoneyScales'. -/
def moneyScalesCard : Claim7 := { stood := { row := moneyScalesRow, standIns := [], harness := (true, "386f80bac50f6b510e3885cc7e1d8a0468756c8cdb987415c50f2036d8d56f38"), looks := false }, kinds := [], alts := [], laidByText := true, laidKinds := [.data], laidTests := true, laidLooks := .later }
def MoneyScalesCardSaid : Prop := Claim7.holds Tryd.pinned (.plain (OpenSpec.ofChange moneyScalesSpec)) moneyScalesCard

/-- THE TIED CARD OF 'levylaw1.MoneyNear'. -/
def moneyNearCard : Claim7 := { stood := { row := moneyNearRow, standIns := [], harness := (true, "386f80bac50f6b510e3885cc7e1d8a0468756c8cdb987415c50f2036d8d56f38"), looks := false }, kinds := [], alts := [], laidByText := true, laidKinds := [.data], laidTests := true, laidLooks := .later }
def MoneyNearCardSaid : Prop := Claim7.holds Tryd.pinned (.plain (OpenSpec.ofChange moneyNearSpec)) moneyNearCard

/-- THE TIED CARD OF 'levylaw1.MoneyBands'. -/
def moneyBandsCard : Claim7 := { stood := { row := moneyBandsRow, standIns := [], harness := (true, "386f80bac50f6b510e3885cc7e1d8a0468756c8cdb987415c50f2036d8d56f38"), looks := false }, kinds := [], alts := [], laidByText := true, laidKinds := [.data], laidTests := true, laidLooks := .later }
def MoneyBandsCardSaid : Prop := Claim7.holds Tryd.pinned (.plain (OpenSpec.ofChange moneyBandsSpec)) moneyBandsCard

/-- THE TIED CARD OF 'levylaw1.MoneyBack'. -/
def moneyBackCard : Claim7 := { stood := { row := moneyBackRow, standIns := [], harness := (true, "386f80bac50f6b510e3885cc7e1d8a0468756c8cdb987415c50f2036d8d56f38"), looks := false }, kinds := [], alts := [], laidByText := true, laidKinds := [.data], laidTests := true, laidLooks := .later }
def MoneyBackCardSaid : Prop := Claim7.holds Tryd.pinned (.plain (OpenSpec.ofChange moneyBackSpec)) moneyBackCard

/-- THE TIED CARD OF 'levylaw1.MoneySafe'. -/
def moneySafeCard : Claim7 := { stood := { row := moneySafeRow, standIns := [], harness := (true, "386f80bac50f6b510e3885cc7e1d8a0468756c8cdb987415c50f2036d8d56f38"), looks := false }, kinds := [], alts := [], laidByText := true, laidKinds := [.data], laidTests := true, laidLooks := .later }
def MoneySafeCardSaid : Prop := Claim7.holds Tryd.pinned (.plain (OpenSpec.ofChange moneySafeSpec)) moneySafeCard

/-- THE TIED CARD OF 'levylaw1.MoneyPlays'. -/
def moneyPlaysCard : Claim7 := { stood := { row := moneyPlaysRow, standIns := [], harness := (true, "386f80bac50f6b510e3885cc7e1d8a0468756c8cdb987415c50f2036d8d56f38"), looks := false }, kinds := [], alts := [], laidByText := true, laidKinds := [.data], laidTests := true, laidLooks := .later }
def MoneyPlaysCardSaid : Prop := Claim7.holds Tryd.pinned (.plain (OpenSpec.ofChange moneyPlaysSpec)) moneyPlaysCard

/-- THE SECOND FORM's CARD OF 'levylaw1.MoneyValids'. -/
def moneyValidsUptoCard : Claim7 := { stood := { row := moneyValidsUptoRow, standIns := [], harness := (true, "386f80bac50f6b510e3885cc7e1d8a0468756c8cdb987415c50f2036d8d56f38"), looks := false }, kinds := [], alts := [], laidByText := true, laidKinds := [.data], laidTests := true, laidLooks := .later }
def MoneyValidsUptoCardSaid : Prop := Claim7.holds Tryd.pinned (.plain (OpenSpec.upto moneyValidsSpec)) moneyValidsUptoCard

/-- THE SECOND FORM's CARD OF 'levylaw1.MoneySums'. -/
def moneySumsUptoCard : Claim7 := { stood := { row := moneySumsUptoRow, standIns := [], harness := (true, "386f80bac50f6b510e3885cc7e1d8a0468756c8cdb987415c50f2036d8d56f38"), looks := false }, kinds := [], alts := [], laidByText := true, laidKinds := [.data], laidTests := true, laidLooks := .later }
def MoneySumsUptoCardSaid : Prop := Claim7.holds Tryd.pinned (.plain (OpenSpec.upto moneySumsSpec)) moneySumsUptoCard

/-- THE SECOND FORM's CARD OF 'levylaw1.MoneyAdds'. -/
def moneyAddsUptoCard : Claim7 := { stood := { row := moneyAddsUptoRow, standIns := [], harness := (true, "386f80bac50f6b510e3885cc7e1d8a0468756c8cdb987415c50f2036d8d56f38"), looks := false }, kinds := [], alts := [], laidByText := true, laidKinds := [.data], laidTests := true, laidLooks := .later }
def MoneyAddsUptoCardSaid : Prop := Claim7.holds Tryd.pinned (.plain (OpenSpec.upto moneyAddsSpec)) moneyAddsUptoCard

/-- THE SECOND FORM's CARD OF 'levylaw1.MoneyClamps'. -/
def moneyClampsUptoCard : Claim7 := { stood := { row := moneyClampsUptoRow, standIns := [], harness := (true, "386f80bac50f6b510e3885cc7e1d8a0468756c8cdb987415c50f2036d8d56f38"), looks := false }, kinds := [], alts := [], laidByText := true, laidKinds := [.data], laidTests := true, laidLooks := .later }
def MoneyClampsUptoCardSaid : Prop := Claim7.holds Tryd.pinned (.plain (OpenSpec.upto moneyClampsSpec)) moneyClampsUptoCard

/-- THE SECOND FORM's CARD OF 'levylaw1.MoneyCompares'. -/
def moneyComparesUptoCard : Claim7 := { stood := { row := moneyComparesUptoRow, standIns := [], harness := (true, "386f80bac50f6b510e3885cc7e1d8a0468756c8cdb987415c50f2036d8d56f38"), looks := false }, kinds := [], alts := [], laidByText := true, laidKinds := [.data], laidTests := true, laidLooks := .later }
def MoneyComparesUptoCardSaid : Prop := Claim7.holds Tryd.pinned (.plain (OpenSpec.upto moneyComparesSpec)) moneyComparesUptoCard

/-- THE SECOND FORM's CARD OF 'levylaw1.MoneyRounds'. -/
def moneyRoundsUptoCard : Claim7 := { stood := { row := moneyRoundsUptoRow, standIns := [], harness := (true, "386f80bac50f6b510e3885cc7e1d8a0468756c8cdb987415c50f2036d8d56f38"), looks := false }, kinds := [], alts := [], laidByText := true, laidKinds := [.data], laidTests := true, laidLooks := .later }
def MoneyRoundsUptoCardSaid : Prop := Claim7.holds Tryd.pinned (.plain (OpenSpec.upto moneyRoundsSpec)) moneyRoundsUptoCard

/-- THE SECOND FORM's CARD OF 'levylaw1.MoneyTimes'. -/
def moneyTimesUptoCard : Claim7 := { stood := { row := moneyTimesUptoRow, standIns := [], harness := (true, "386f80bac50f6b510e3885cc7e1d8a0468756c8cdb987415c50f2036d8d56f38"), looks := false }, kinds := [], alts := [], laidByText := true, laidKinds := [.data], laidTests := true, laidLooks := .later }
def MoneyTimesUptoCardSaid : Prop := Claim7.holds Tryd.pinned (.plain (OpenSpec.upto moneyTimesSpec)) moneyTimesUptoCard

/-- THE SECOND FORM's CARD OF 'levylaw1.MoneyBrackets'. -/
def moneyBracketsUptoCard : Claim7 := { stood := { row := moneyBracketsUptoRow, standIns := [], harness := (true, "386f80bac50f6b510e3885cc7e1d8a0468756c8cdb987415c50f2036d8d56f38"), looks := false }, kinds := [], alts := [], laidByText := true, laidKinds := [.data], laidTests := true, laidLooks := .later }
def MoneyBracketsUptoCardSaid : Prop := Claim7.holds Tryd.pinned (.plain (OpenSpec.upto moneyBracketsSpec)) moneyBracketsUptoCard

/-- THE SECOND FORM's CARD OF 'levylaw1.MoneySplits'. -/
def moneySplitsUptoCard : Claim7 := { stood := { row := moneySplitsUptoRow, standIns := [], harness := (true, "386f80bac50f6b510e3885cc7e1d8a0468756c8cdb987415c50f2036d8d56f38"), looks := false }, kinds := [], alts := [], laidByText := true, laidKinds := [.data], laidTests := true, laidLooks := .later }
def MoneySplitsUptoCardSaid : Prop := Claim7.holds Tryd.pinned (.plain (OpenSpec.upto moneySplitsSpec)) moneySplitsUptoCard

/-- THE SECOND FORM's CARD OF 'levylaw1.MoneyScales'. -/
def moneyScalesUptoCard : Claim7 := { stood := { row := moneyScalesUptoRow, standIns := [], harness := (true, "386f80bac50f6b510e3885cc7e1d8a0468756c8cdb987415c50f2036d8d56f38"), looks := false }, kinds := [], alts := [], laidByText := true, laidKinds := [.data], laidTests := true, laidLooks := .later }
def MoneyScalesUptoCardSaid : Prop := Claim7.holds Tryd.pinned (.plain (OpenSpec.upto moneyScalesSpec)) moneyScalesUptoCard

/-- THE SECOND FORM's CARD OF 'levylaw1.MoneyNear'. -/
def moneyNearUptoCard : Claim7 := { stood := { row := moneyNearUptoRow, standIns := [], harness := (true, "386f80bac50f6b510e3885cc7e1d8a0468756c8cdb987415c50f2036d8d56f38"), looks := false }, kinds := [], alts := [], laidByText := true, laidKinds := [.data], laidTests := true, laidLooks := .later }
def MoneyNearUptoCardSaid : Prop := Claim7.holds Tryd.pinned (.plain (OpenSpec.upto moneyNearSpec)) moneyNearUptoCard

/-- THE SECOND FORM's CARD OF 'levylaw1.MoneyBands'. -/
def moneyBandsUptoCard : Claim7 := { stood := { row := moneyBandsUptoRow, standIns := [], harness := (true, "386f80bac50f6b510e3885cc7e1d8a0468756c8cdb987415c50f2036d8d56f38"), looks := false }, kinds := [], alts := [], laidByText := true, laidKinds := [.data], laidTests := true, laidLooks := .later }
def MoneyBandsUptoCardSaid : Prop := Claim7.holds Tryd.pinned (.plain (OpenSpec.upto moneyBandsSpec)) moneyBandsUptoCard

/-- THE SECOND FORM's CARD OF 'levylaw1.MoneyBack'. -/
def moneyBackUptoCard : Claim7 := { stood := { row := moneyBackUptoRow, standIns := [], harness := (true, "386f80bac50f6b510e3885cc7e1d8a0468756c8cdb987415c50f2036d8d56f38"), looks := false }, kinds := [], alts := [], laidByText := true, laidKinds := [.data], laidTests := true, laidLooks := .later }
def MoneyBackUptoCardSaid : Prop := Claim7.holds Tryd.pinned (.plain (OpenSpec.upto moneyBackSpec)) moneyBackUptoCard

/-- THE SECOND FORM's CARD OF 'levylaw1.MoneySafe'. -/
def moneySafeUptoCard : Claim7 := { stood := { row := moneySafeUptoRow, standIns := [], harness := (true, "386f80bac50f6b510e3885cc7e1d8a0468756c8cdb987415c50f2036d8d56f38"), looks := false }, kinds := [], alts := [], laidByText := true, laidKinds := [.data], laidTests := true, laidLooks := .later }
def MoneySafeUptoCardSaid : Prop := Claim7.holds Tryd.pinned (.plain (OpenSpec.upto moneySafeSpec)) moneySafeUptoCard

/-- THE SECOND FORM's CARD OF 'levylaw1.MoneyPlays'. -/
def moneyPlaysUptoCard : Claim7 := { stood := { row := moneyPlaysUptoRow, standIns := [], harness := (true, "386f80bac50f6b510e3885cc7e1d8a0468756c8cdb987415c50f2036d8d56f38"), looks := false }, kinds := [], alts := [], laidByText := true, laidKinds := [.data], laidTests := true, laidLooks := .later }
def MoneyPlaysUptoCardSaid : Prop := Claim7.holds Tryd.pinned (.plain (OpenSpec.upto moneyPlaysSpec)) moneyPlaysUptoCard
end Rows
end Go.Proofs.YtnjhjaifmgjljaaDoor
