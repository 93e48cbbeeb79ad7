/-
  DERIVED. GIVEN WITH THE SEED: THE CARDS: each row of YtclgplkkajfenaaGreatDoorRows.lean that lists a variable, with what it lists TIED to the program's text (the seventh form; the later family's looks); each row that meets fmt, with fmt's text TOLD by the authors' own Lean function (tested against real Go, not proved from fmt's source: count such statements apart). THE CARD IS WHAT COUNTS. Prove the row's statement (the work); the ties are given (YtclgplkkajfenaaGreatDoorTie.lean); close each card by the builder's one call (the guide's Derived/Test/ToyasCard.lean, 'card_holds'). Laid BY PROGRAM, IN A SANDBOX (cutbox-door.mjs). By AI agents, Wed Nov 11 2026. No macro, syntax, notation, axiom, sorry.
-/
import Derived.Test.YtclgplkkajfenaaGreatDoorRows
import GoSem.ClaimSeven
namespace Go.Proofs.YtclgplkkajfenaaGreatDoor
namespace Rows

/-- THE TIED CARD OF 'bodkinlaw11.LinesColumns'. -/
def linesColumnsCard : Claim7 := { stood := { row := linesColumnsRow, standIns := [], harness := (true, "056fa145219ffdc7d906cdf64f2f4eae4c0083f6245b3a2940b815484193903b"), looks := true }, kinds := [], alts := [], laidByText := true, laidKinds := [.data, .pinned], laidTests := true, laidLooks := .later }
def LinesColumnsCardSaid : Prop := Claim7.holds Tryz.pinned (.plain (OpenSpec.ofChange linesColumnsSpec)) linesColumnsCard

/-- THE TIED CARD OF 'bodkinlaw11.LinesBack'. -/
def linesBackCard : Claim7 := { stood := { row := linesBackRow, standIns := [], harness := (true, "056fa145219ffdc7d906cdf64f2f4eae4c0083f6245b3a2940b815484193903b"), looks := true }, kinds := [], alts := [], laidByText := true, laidKinds := [.data, .pinned], laidTests := true, laidLooks := .later }
def LinesBackCardSaid : Prop := Claim7.holds Tryz.pinned (.plain (OpenSpec.ofChange linesBackSpec)) linesBackCard

/-- THE TIED CARD OF 'bodkinlaw11.LinesAlike'. -/
def linesAlikeCard : Claim7 := { stood := { row := linesAlikeRow, standIns := [], harness := (true, "056fa145219ffdc7d906cdf64f2f4eae4c0083f6245b3a2940b815484193903b"), looks := true }, kinds := [], alts := [], laidByText := true, laidKinds := [.data, .pinned], laidTests := true, laidLooks := .later }
def LinesAlikeCardSaid : Prop := Claim7.holds Tryz.pinned (.plain (OpenSpec.ofChange linesAlikeSpec)) linesAlikeCard

/-- THE TIED CARD OF 'bodkinlaw11.LinesSpans'. -/
def linesSpansCard : Claim7 := { stood := { row := linesSpansRow, standIns := [], harness := (true, "056fa145219ffdc7d906cdf64f2f4eae4c0083f6245b3a2940b815484193903b"), looks := true }, kinds := [], alts := [], laidByText := true, laidKinds := [.data, .pinned], laidTests := true, laidLooks := .later }
def LinesSpansCardSaid : Prop := Claim7.holds Tryz.pinned (.plain (OpenSpec.ofChange linesSpansSpec)) linesSpansCard

/-- THE TIED CARD OF 'bodkinlaw11.LinesTile'. -/
def linesTileCard : Claim7 := { stood := { row := linesTileRow, standIns := [], harness := (true, "056fa145219ffdc7d906cdf64f2f4eae4c0083f6245b3a2940b815484193903b"), looks := true }, kinds := [], alts := [], laidByText := true, laidKinds := [.data, .pinned], laidTests := true, laidLooks := .later }
def LinesTileCardSaid : Prop := Claim7.holds Tryz.pinned (.plain (OpenSpec.ofChange linesTileSpec)) linesTileCard

/-- THE TIED CARD OF 'bodkinlaw11.LinesNil'. -/
def linesNilCard : Claim7 := { stood := { row := linesNilRow, standIns := [], harness := (true, "056fa145219ffdc7d906cdf64f2f4eae4c0083f6245b3a2940b815484193903b"), looks := true }, kinds := [], alts := [], laidByText := true, laidKinds := [.data, .pinned], laidTests := true, laidLooks := .later }
def LinesNilCardSaid : Prop := Claim7.holds Tryz.pinned (.plain (OpenSpec.ofChange linesNilSpec)) linesNilCard

/-- THE TIED CARD OF 'bodkinlaw09.StoreTexts'. -/
def storeTextsCard : Claim7 := { stood := { row := storeTextsRow, standIns := [], harness := (true, "056fa145219ffdc7d906cdf64f2f4eae4c0083f6245b3a2940b815484193903b"), looks := true }, kinds := [], alts := [], laidByText := true, laidKinds := [.data, .pinned], laidTests := true, laidLooks := .later }
def StoreTextsCardSaid : Prop := Claim7.holds Tryz.pinned (.plain (OpenSpec.ofChange storeTextsSpec)) storeTextsCard

/-- THE TIED CARD OF 'bodkinlaw11.LinesKeeps'. -/
def linesKeepsCard : Claim7 := { stood := { row := linesKeepsRow, standIns := [], harness := (true, "056fa145219ffdc7d906cdf64f2f4eae4c0083f6245b3a2940b815484193903b"), looks := true }, kinds := [], alts := [], laidByText := true, laidKinds := [.data, .pinned], laidTests := true, laidLooks := .later }
def LinesKeepsCardSaid : Prop := Claim7.holds Tryz.pinned (.plain (OpenSpec.ofChange linesKeepsSpec)) linesKeepsCard

/-- THE TIED CARD OF 'bodkinlaw09.StorePlays'. -/
def storePlaysCard : Claim7 := { stood := { row := storePlaysRow, standIns := [], harness := (true, "056fa145219ffdc7d906cdf64f2f4eae4c0083f6245b3a2940b815484193903b"), looks := true }, kinds := [], alts := [], laidByText := true, laidKinds := [.data, .pinned], laidTests := true, laidLooks := .later }
def StorePlaysCardSaid : Prop := Claim7.holds Tryz.pinned (.plain (OpenSpec.ofChange storePlaysSpec)) storePlaysCard

/-- THE TIED CARD OF 'bodkinlaw09.StoreUnseen'. -/
def storeUnseenCard : Claim7 := { stood := { row := storeUnseenRow, standIns := [], harness := (true, "056fa145219ffdc7d906cdf64f2f4eae4c0083f6245b3a2940b815484193903b"), looks := true }, kinds := [], alts := [], laidByText := true, laidKinds := [.data, .pinned], laidTests := true, laidLooks := .later }
def StoreUnseenCardSaid : Prop := Claim7.holds Tryz.pinned (.plain (OpenSpec.ofChange storeUnseenSpec)) storeUnseenCard

/-- THE TIED CARD OF 'bodkinlaw09.StoreClones'. -/
def storeClonesCard : Claim7 := { stood := { row := storeClonesRow, standIns := [], harness := (true, "056fa145219ffdc7d906cdf64f2f4eae4c0083f6245b3a2940b815484193903b"), looks := true }, kinds := [], alts := [], laidByText := true, laidKinds := [.data, .pinned], laidTests := true, laidLooks := .later }
def StoreClonesCardSaid : Prop := Claim7.holds Tryz.pinned (.plain (OpenSpec.ofChange storeClonesSpec)) storeClonesCard

/-- THE TIED CARD OF 'bodkinlaw09.StoreEnds'. -/
def storeEndsCard : Claim7 := { stood := { row := storeEndsRow, standIns := [], harness := (true, "056fa145219ffdc7d906cdf64f2f4eae4c0083f6245b3a2940b815484193903b"), looks := true }, kinds := [], alts := [], laidByText := true, laidKinds := [.data, .pinned], laidTests := true, laidLooks := .later }
def StoreEndsCardSaid : Prop := Claim7.holds Tryz.pinned (.plain (OpenSpec.ofChange storeEndsSpec)) storeEndsCard

/-- THE TIED CARD OF 'bodkinlaw11.LinesWalks'. -/
def linesWalksCard : Claim7 := { stood := { row := linesWalksRow, standIns := [], harness := (true, "056fa145219ffdc7d906cdf64f2f4eae4c0083f6245b3a2940b815484193903b"), looks := true }, kinds := [], alts := [], laidByText := true, laidKinds := [.data, .pinned], laidTests := true, laidLooks := .later }
def LinesWalksCardSaid : Prop := Claim7.holds Tryz.pinned (.plain (OpenSpec.ofChange linesWalksSpec)) linesWalksCard

/-- THE TIED CARD OF 'bodkinlaw16.MoveWalks'. -/
def moveWalksCard : Claim7 := { stood := { row := moveWalksRow, standIns := [], harness := (true, "056fa145219ffdc7d906cdf64f2f4eae4c0083f6245b3a2940b815484193903b"), looks := true }, kinds := [], alts := [], laidByText := true, laidKinds := [.data, .pinned], laidTests := true, laidLooks := .later }
def MoveWalksCardSaid : Prop := Claim7.holds Tryz.pinned (.plain (OpenSpec.ofChange moveWalksSpec)) moveWalksCard

/-- THE TIED CARD OF 'bodkinlaw16.MoveStays'. -/
def moveStaysCard : Claim7 := { stood := { row := moveStaysRow, standIns := [], harness := (true, "056fa145219ffdc7d906cdf64f2f4eae4c0083f6245b3a2940b815484193903b"), looks := true }, kinds := [], alts := [], laidByText := true, laidKinds := [.data, .pinned], laidTests := true, laidLooks := .later }
def MoveStaysCardSaid : Prop := Claim7.holds Tryz.pinned (.plain (OpenSpec.ofChange moveStaysSpec)) moveStaysCard

/-- THE TIED CARD OF 'bodkinlaw16.MoveGoal'. -/
def moveGoalCard : Claim7 := { stood := { row := moveGoalRow, standIns := [], harness := (true, "056fa145219ffdc7d906cdf64f2f4eae4c0083f6245b3a2940b815484193903b"), looks := true }, kinds := [], alts := [], laidByText := true, laidKinds := [.data, .pinned], laidTests := true, laidLooks := .later }
def MoveGoalCardSaid : Prop := Claim7.holds Tryz.pinned (.plain (OpenSpec.ofChange moveGoalSpec)) moveGoalCard

/-- THE TIED CARD OF 'bodkinlaw16.MovePlaces'. -/
def movePlacesCard : Claim7 := { stood := { row := movePlacesRow, standIns := [], harness := (true, "056fa145219ffdc7d906cdf64f2f4eae4c0083f6245b3a2940b815484193903b"), looks := true }, kinds := [], alts := [], laidByText := true, laidKinds := [.data, .pinned], laidTests := true, laidLooks := .later }
def MovePlacesCardSaid : Prop := Claim7.holds Tryz.pinned (.plain (OpenSpec.ofChange movePlacesSpec)) movePlacesCard

/-- THE TIED CARD OF 'bodkinlaw16.MoveGoes'. -/
def moveGoesCard : Claim7 := { stood := { row := moveGoesRow, standIns := [], harness := (true, "056fa145219ffdc7d906cdf64f2f4eae4c0083f6245b3a2940b815484193903b"), looks := true }, kinds := [], alts := [], laidByText := true, laidKinds := [.data, .pinned], laidTests := true, laidLooks := .later }
def MoveGoesCardSaid : Prop := Claim7.holds Tryz.pinned (.plain (OpenSpec.ofChange moveGoesSpec)) moveGoesCard

/-- THE SECOND FORM's CARD OF 'bodkinlaw11.LinesColumns'. -/
def linesColumnsUptoCard : Claim7 := { stood := { row := linesColumnsUptoRow, standIns := [], harness := (true, "056fa145219ffdc7d906cdf64f2f4eae4c0083f6245b3a2940b815484193903b"), looks := true }, kinds := [], alts := [], laidByText := true, laidKinds := [.data, .pinned], laidTests := true, laidLooks := .later }
def LinesColumnsUptoCardSaid : Prop := Claim7.holds Tryz.pinned (.plain (OpenSpec.upto linesColumnsSpec)) linesColumnsUptoCard

/-- THE SECOND FORM's CARD OF 'bodkinlaw11.LinesBack'. -/
def linesBackUptoCard : Claim7 := { stood := { row := linesBackUptoRow, standIns := [], harness := (true, "056fa145219ffdc7d906cdf64f2f4eae4c0083f6245b3a2940b815484193903b"), looks := true }, kinds := [], alts := [], laidByText := true, laidKinds := [.data, .pinned], laidTests := true, laidLooks := .later }
def LinesBackUptoCardSaid : Prop := Claim7.holds Tryz.pinned (.plain (OpenSpec.upto linesBackSpec)) linesBackUptoCard

/-- THE SECOND FORM's CARD OF 'bodkinlaw11.LinesAlike'. -/
def linesAlikeUptoCard : Claim7 := { stood := { row := linesAlikeUptoRow, standIns := [], harness := (true, "056fa145219ffdc7d906cdf64f2f4eae4c0083f6245b3a2940b815484193903b"), looks := true }, kinds := [], alts := [], laidByText := true, laidKinds := [.data, .pinned], laidTests := true, laidLooks := .later }
def LinesAlikeUptoCardSaid : Prop := Claim7.holds Tryz.pinned (.plain (OpenSpec.upto linesAlikeSpec)) linesAlikeUptoCard

/-- THE SECOND FORM's CARD OF 'bodkinlaw11.LinesSpans'. -/
def linesSpansUptoCard : Claim7 := { stood := { row := linesSpansUptoRow, standIns := [], harness := (true, "056fa145219ffdc7d906cdf64f2f4eae4c0083f6245b3a2940b815484193903b"), looks := true }, kinds := [], alts := [], laidByText := true, laidKinds := [.data, .pinned], laidTests := true, laidLooks := .later }
def LinesSpansUptoCardSaid : Prop := Claim7.holds Tryz.pinned (.plain (OpenSpec.upto linesSpansSpec)) linesSpansUptoCard

/-- THE SECOND FORM's CARD OF 'bodkinlaw11.LinesTile'. -/
def linesTileUptoCard : Claim7 := { stood := { row := linesTileUptoRow, standIns := [], harness := (true, "056fa145219ffdc7d906cdf64f2f4eae4c0083f6245b3a2940b815484193903b"), looks := true }, kinds := [], alts := [], laidByText := true, laidKinds := [.data, .pinned], laidTests := true, laidLooks := .later }
def LinesTileUptoCardSaid : Prop := Claim7.holds Tryz.pinned (.plain (OpenSpec.upto linesTileSpec)) linesTileUptoCard

/-- THE SECOND FORM's CARD OF 'bodkinlaw11.LinesNil'. -/
def linesNilUptoCard : Claim7 := { stood := { row := linesNilUptoRow, standIns := [], harness := (true, "056fa145219ffdc7d906cdf64f2f4eae4c0083f6245b3a2940b815484193903b"), looks := true }, kinds := [], alts := [], laidByText := true, laidKinds := [.data, .pinned], laidTests := true, laidLooks := .later }
def LinesNilUptoCardSaid : Prop := Claim7.holds Tryz.pinned (.plain (OpenSpec.upto linesNilSpec)) linesNilUptoCard

/-- THE SECOND FORM's CARD OF 'bodkinlaw09.StoreTexts'. -/
def storeTextsUptoCard : Claim7 := { stood := { row := storeTextsUptoRow, standIns := [], harness := (true, "056fa145219ffdc7d906cdf64f2f4eae4c0083f6245b3a2940b815484193903b"), looks := true }, kinds := [], alts := [], laidByText := true, laidKinds := [.data, .pinned], laidTests := true, laidLooks := .later }
def StoreTextsUptoCardSaid : Prop := Claim7.holds Tryz.pinned (.plain (OpenSpec.upto storeTextsSpec)) storeTextsUptoCard

/-- THE SECOND FORM's CARD OF 'bodkinlaw11.LinesKeeps'. -/
def linesKeepsUptoCard : Claim7 := { stood := { row := linesKeepsUptoRow, standIns := [], harness := (true, "056fa145219ffdc7d906cdf64f2f4eae4c0083f6245b3a2940b815484193903b"), looks := true }, kinds := [], alts := [], laidByText := true, laidKinds := [.data, .pinned], laidTests := true, laidLooks := .later }
def LinesKeepsUptoCardSaid : Prop := Claim7.holds Tryz.pinned (.plain (OpenSpec.upto linesKeepsSpec)) linesKeepsUptoCard

/-- THE SECOND FORM's CARD OF 'bodkinlaw09.StorePlays'. -/
def storePlaysUptoCard : Claim7 := { stood := { row := storePlaysUptoRow, standIns := [], harness := (true, "056fa145219ffdc7d906cdf64f2f4eae4c0083f6245b3a2940b815484193903b"), looks := true }, kinds := [], alts := [], laidByText := true, laidKinds := [.data, .pinned], laidTests := true, laidLooks := .later }
def StorePlaysUptoCardSaid : Prop := Claim7.holds Tryz.pinned (.plain (OpenSpec.upto storePlaysSpec)) storePlaysUptoCard

/-- THE SECOND FORM's CARD OF 'bodkinlaw09.StoreUnseen'. -/
def storeUnseenUptoCard : Claim7 := { stood := { row := storeUnseenUptoRow, standIns := [], harness := (true, "056fa145219ffdc7d906cdf64f2f4eae4c0083f6245b3a2940b815484193903b"), looks := true }, kinds := [], alts := [], laidByText := true, laidKinds := [.data, .pinned], laidTests := true, laidLooks := .later }
def StoreUnseenUptoCardSaid : Prop := Claim7.holds Tryz.pinned (.plain (OpenSpec.upto storeUnseenSpec)) storeUnseenUptoCard

/-- THE SECOND FORM's CARD OF 'bodkinlaw09.StoreClones'. -/
def storeClonesUptoCard : Claim7 := { stood := { row := storeClonesUptoRow, standIns := [], harness := (true, "056fa145219ffdc7d906cdf64f2f4eae4c0083f6245b3a2940b815484193903b"), looks := true }, kinds := [], alts := [], laidByText := true, laidKinds := [.data, .pinned], laidTests := true, laidLooks := .later }
def StoreClonesUptoCardSaid : Prop := Claim7.holds Tryz.pinned (.plain (OpenSpec.upto storeClonesSpec)) storeClonesUptoCard

/-- THE SECOND FORM's CARD OF 'bodkinlaw09.StoreEnds'. -/
def storeEndsUptoCard : Claim7 := { stood := { row := storeEndsUptoRow, standIns := [], harness := (true, "056fa145219ffdc7d906cdf64f2f4eae4c0083f6245b3a2940b815484193903b"), looks := true }, kinds := [], alts := [], laidByText := true, laidKinds := [.data, .pinned], laidTests := true, laidLooks := .later }
def StoreEndsUptoCardSaid : Prop := Claim7.holds Tryz.pinned (.plain (OpenSpec.upto storeEndsSpec)) storeEndsUptoCard

/-- THE SECOND FORM's CARD OF 'bodkinlaw11.LinesWalks'. -/
def linesWalksUptoCard : Claim7 := { stood := { row := linesWalksUptoRow, standIns := [], harness := (true, "056fa145219ffdc7d906cdf64f2f4eae4c0083f6245b3a2940b815484193903b"), looks := true }, kinds := [], alts := [], laidByText := true, laidKinds := [.data, .pinned], laidTests := true, laidLooks := .later }
def LinesWalksUptoCardSaid : Prop := Claim7.holds Tryz.pinned (.plain (OpenSpec.upto linesWalksSpec)) linesWalksUptoCard

/-- THE SECOND FORM's CARD OF 'bodkinlaw16.MoveWalks'. -/
def moveWalksUptoCard : Claim7 := { stood := { row := moveWalksUptoRow, standIns := [], harness := (true, "056fa145219ffdc7d906cdf64f2f4eae4c0083f6245b3a2940b815484193903b"), looks := true }, kinds := [], alts := [], laidByText := true, laidKinds := [.data, .pinned], laidTests := true, laidLooks := .later }
def MoveWalksUptoCardSaid : Prop := Claim7.holds Tryz.pinned (.plain (OpenSpec.upto moveWalksSpec)) moveWalksUptoCard

/-- THE SECOND FORM's CARD OF 'bodkinlaw16.MoveStays'. -/
def moveStaysUptoCard : Claim7 := { stood := { row := moveStaysUptoRow, standIns := [], harness := (true, "056fa145219ffdc7d906cdf64f2f4eae4c0083f6245b3a2940b815484193903b"), looks := true }, kinds := [], alts := [], laidByText := true, laidKinds := [.data, .pinned], laidTests := true, laidLooks := .later }
def MoveStaysUptoCardSaid : Prop := Claim7.holds Tryz.pinned (.plain (OpenSpec.upto moveStaysSpec)) moveStaysUptoCard

/-- THE SECOND FORM's CARD OF 'bodkinlaw16.MoveGoal'. -/
def moveGoalUptoCard : Claim7 := { stood := { row := moveGoalUptoRow, standIns := [], harness := (true, "056fa145219ffdc7d906cdf64f2f4eae4c0083f6245b3a2940b815484193903b"), looks := true }, kinds := [], alts := [], laidByText := true, laidKinds := [.data, .pinned], laidTests := true, laidLooks := .later }
def MoveGoalUptoCardSaid : Prop := Claim7.holds Tryz.pinned (.plain (OpenSpec.upto moveGoalSpec)) moveGoalUptoCard

/-- THE SECOND FORM's CARD OF 'bodkinlaw16.MovePlaces'. -/
def movePlacesUptoCard : Claim7 := { stood := { row := movePlacesUptoRow, standIns := [], harness := (true, "056fa145219ffdc7d906cdf64f2f4eae4c0083f6245b3a2940b815484193903b"), looks := true }, kinds := [], alts := [], laidByText := true, laidKinds := [.data, .pinned], laidTests := true, laidLooks := .later }
def MovePlacesUptoCardSaid : Prop := Claim7.holds Tryz.pinned (.plain (OpenSpec.upto movePlacesSpec)) movePlacesUptoCard

/-- THE SECOND FORM's CARD OF 'bodkinlaw16.MoveGoes'. -/
def moveGoesUptoCard : Claim7 := { stood := { row := moveGoesUptoRow, standIns := [], harness := (true, "056fa145219ffdc7d906cdf64f2f4eae4c0083f6245b3a2940b815484193903b"), looks := true }, kinds := [], alts := [], laidByText := true, laidKinds := [.data, .pinned], laidTests := true, laidLooks := .later }
def MoveGoesUptoCardSaid : Prop := Claim7.holds Tryz.pinned (.plain (OpenSpec.upto moveGoesSpec)) moveGoesUptoCard
end Rows
end Go.Proofs.YtclgplkkajfenaaGreatDoor
