/-
  DERIVED. GIVEN WITH THE SEED: THE CARDS: each row of YtbpegjgpdgeadaaGreatDoorRows.lean that lists a variable, with what it lists TIED to the program's text (the seventh form; the later family's looks); each row that meets fmt, with fmt's text TOLD by the authors' own Lean function (tested against real Go, not proved from fmt's source: count such statements apart). THE CARD IS WHAT COUNTS. Prove the row's statement (the work); the ties are given (YtbpegjgpdgeadaaGreatDoorTie.lean); close each card by the builder's one call (the guide's Derived/Test/ToyasCard.lean, 'card_holds'). Laid BY PROGRAM, IN A SANDBOX (cutbox-door.mjs). By AI agents, Wed Nov 11 2026. No macro, syntax, notation, axiom, sorry.
-/
import Derived.Test.YtbpegjgpdgeadaaGreatDoorRows
import GoSem.ClaimSeven
namespace Go.Proofs.YtbpegjgpdgeadaaGreatDoor
namespace Rows

/-- THE TIED CARD OF 'metrolablaw40.TorsorApplies'. -/
def torsorAppliesCard : Claim7 := { stood := { row := torsorAppliesRow, standIns := [], harness := (true, "bd3ca8164d7474578540dccbb61cabf1bf428d9000a5875584b07e7621bc6e0f"), looks := true }, kinds := [], alts := [], laidByText := true, laidKinds := [.data, .data, .data, .data, .sentinel, .sentinel, .pinned], laidTests := true, laidLooks := .later }
def TorsorAppliesCardSaid : Prop := Claim7.holds Tryz.pinned (.plain (OpenSpec.ofChange torsorAppliesSpec)) torsorAppliesCard

/-- THE TIED CARD OF 'metrolablaw40.TorsorForms'. -/
def torsorFormsCard : Claim7 := { stood := { row := torsorFormsRow, standIns := [], harness := (true, "bd3ca8164d7474578540dccbb61cabf1bf428d9000a5875584b07e7621bc6e0f"), looks := true }, kinds := [], alts := [], laidByText := true, laidKinds := [.data, .data, .data, .data, .sentinel, .sentinel, .pinned], laidTests := true, laidLooks := .later }
def TorsorFormsCardSaid : Prop := Claim7.holds Tryz.pinned (.plain (OpenSpec.ofChange torsorFormsSpec)) torsorFormsCard

/-- THE TIED CARD OF 'metrolablaw40.TorsorTurns'. -/
def torsorTurnsCard : Claim7 := { stood := { row := torsorTurnsRow, standIns := [], harness := (true, "bd3ca8164d7474578540dccbb61cabf1bf428d9000a5875584b07e7621bc6e0f"), looks := true }, kinds := [], alts := [], laidByText := true, laidKinds := [.data, .data, .data, .data, .sentinel, .sentinel, .pinned], laidTests := true, laidLooks := .later }
def TorsorTurnsCardSaid : Prop := Claim7.holds Tryz.pinned (.plain (OpenSpec.ofChange torsorTurnsSpec)) torsorTurnsCard

/-- THE TIED CARD OF 'metrolablaw40.TorsorKeeps'. -/
def torsorKeepsCard : Claim7 := { stood := { row := torsorKeepsRow, standIns := [], harness := (true, "bd3ca8164d7474578540dccbb61cabf1bf428d9000a5875584b07e7621bc6e0f"), looks := true }, kinds := [], alts := [], laidByText := true, laidKinds := [.data, .data, .data, .data, .sentinel, .sentinel, .pinned], laidTests := true, laidLooks := .later }
def TorsorKeepsCardSaid : Prop := Claim7.holds Tryz.pinned (.plain (OpenSpec.ofChange torsorKeepsSpec)) torsorKeepsCard

/-- THE TIED CARD OF 'metrolablaw40.TorsorAdds'. -/
def torsorAddsCard : Claim7 := { stood := { row := torsorAddsRow, standIns := [], harness := (true, "bd3ca8164d7474578540dccbb61cabf1bf428d9000a5875584b07e7621bc6e0f"), looks := true }, kinds := [], alts := [], laidByText := true, laidKinds := [.data, .data, .data, .data, .sentinel, .sentinel, .pinned], laidTests := true, laidLooks := .later }
def TorsorAddsCardSaid : Prop := Claim7.holds Tryz.pinned (.plain (OpenSpec.ofChange torsorAddsSpec)) torsorAddsCard

/-- THE TIED CARD OF 'metrolablaw04.MatrixReduces'. -/
def matrixReducesCard : Claim7 := { stood := { row := matrixReducesRow, standIns := [], harness := (true, "bd3ca8164d7474578540dccbb61cabf1bf428d9000a5875584b07e7621bc6e0f"), looks := true }, kinds := [], alts := [], laidByText := true, laidKinds := [.data, .data, .data, .data, .sentinel, .sentinel, .pinned], laidTests := true, laidLooks := .later }
def MatrixReducesCardSaid : Prop := Claim7.holds Tryz.pinned (.plain (OpenSpec.ofChange matrixReducesSpec)) matrixReducesCard

/-- THE TIED CARD OF 'metrolablaw04.MatrixInverts'. -/
def matrixInvertsCard : Claim7 := { stood := { row := matrixInvertsRow, standIns := [], harness := (true, "bd3ca8164d7474578540dccbb61cabf1bf428d9000a5875584b07e7621bc6e0f"), looks := true }, kinds := [], alts := [], laidByText := true, laidKinds := [.data, .data, .data, .data, .sentinel, .sentinel, .pinned], laidTests := true, laidLooks := .later }
def MatrixInvertsCardSaid : Prop := Claim7.holds Tryz.pinned (.plain (OpenSpec.ofChange matrixInvertsSpec)) matrixInvertsCard

/-- THE TIED CARD OF 'metrolablaw04.MatrixSolves'. -/
def matrixSolvesCard : Claim7 := { stood := { row := matrixSolvesRow, standIns := [], harness := (true, "bd3ca8164d7474578540dccbb61cabf1bf428d9000a5875584b07e7621bc6e0f"), looks := true }, kinds := [], alts := [], laidByText := true, laidKinds := [.data, .data, .data, .data, .sentinel, .sentinel, .pinned], laidTests := true, laidLooks := .later }
def MatrixSolvesCardSaid : Prop := Claim7.holds Tryz.pinned (.plain (OpenSpec.ofChange matrixSolvesSpec)) matrixSolvesCard

/-- THE TIED CARD OF 'metrolablaw04.MatrixMakes'. -/
def matrixMakesCard : Claim7 := { stood := { row := matrixMakesRow, standIns := [], harness := (true, "bd3ca8164d7474578540dccbb61cabf1bf428d9000a5875584b07e7621bc6e0f"), looks := true }, kinds := [], alts := [], laidByText := true, laidKinds := [.data, .data, .data, .data, .sentinel, .sentinel, .pinned], laidTests := true, laidLooks := .later }
def MatrixMakesCardSaid : Prop := Claim7.holds Tryz.pinned (.plain (OpenSpec.ofChange matrixMakesSpec)) matrixMakesCard

/-- THE TIED CARD OF 'metrolablaw04.MatrixAnswers'. -/
def matrixAnswersCard : Claim7 := { stood := { row := matrixAnswersRow, standIns := [], harness := (true, "bd3ca8164d7474578540dccbb61cabf1bf428d9000a5875584b07e7621bc6e0f"), looks := true }, kinds := [], alts := [], laidByText := true, laidKinds := [.data, .data, .data, .data, .sentinel, .sentinel, .pinned], laidTests := true, laidLooks := .later }
def MatrixAnswersCardSaid : Prop := Claim7.holds Tryz.pinned (.plain (OpenSpec.ofChange matrixAnswersSpec)) matrixAnswersCard

/-- THE TIED CARD OF 'metrolablaw04.MatrixUndoes'. -/
def matrixUndoesCard : Claim7 := { stood := { row := matrixUndoesRow, standIns := [], harness := (true, "bd3ca8164d7474578540dccbb61cabf1bf428d9000a5875584b07e7621bc6e0f"), looks := true }, kinds := [], alts := [], laidByText := true, laidKinds := [.data, .data, .data, .data, .sentinel, .sentinel, .pinned], laidTests := true, laidLooks := .later }
def MatrixUndoesCardSaid : Prop := Claim7.holds Tryz.pinned (.plain (OpenSpec.ofChange matrixUndoesSpec)) matrixUndoesCard

/-- THE TIED CARD OF 'metrolablaw04.MatrixSpans'. -/
def matrixSpansCard : Claim7 := { stood := { row := matrixSpansRow, standIns := [], harness := (true, "bd3ca8164d7474578540dccbb61cabf1bf428d9000a5875584b07e7621bc6e0f"), looks := true }, kinds := [], alts := [], laidByText := true, laidKinds := [.data, .data, .data, .data, .sentinel, .sentinel, .pinned], laidTests := true, laidLooks := .later }
def MatrixSpansCardSaid : Prop := Claim7.holds Tryz.pinned (.plain (OpenSpec.ofChange matrixSpansSpec)) matrixSpansCard

/-- THE TIED CARD OF 'metrolablaw04.MatrixDetermines'. -/
def matrixDeterminesCard : Claim7 := { stood := { row := matrixDeterminesRow, standIns := [], harness := (true, "bd3ca8164d7474578540dccbb61cabf1bf428d9000a5875584b07e7621bc6e0f"), looks := true }, kinds := [], alts := [], laidByText := true, laidKinds := [.data, .data, .data, .data, .sentinel, .sentinel, .pinned], laidTests := true, laidLooks := .later }
def MatrixDeterminesCardSaid : Prop := Claim7.holds Tryz.pinned (.plain (OpenSpec.ofChange matrixDeterminesSpec)) matrixDeterminesCard

/-- THE TIED CARD OF 'metrolablaw04.MatrixMultiplies'. -/
def matrixMultipliesCard : Claim7 := { stood := { row := matrixMultipliesRow, standIns := [], harness := (true, "bd3ca8164d7474578540dccbb61cabf1bf428d9000a5875584b07e7621bc6e0f"), looks := true }, kinds := [], alts := [], laidByText := true, laidKinds := [.data, .data, .data, .data, .sentinel, .sentinel, .pinned], laidTests := true, laidLooks := .later }
def MatrixMultipliesCardSaid : Prop := Claim7.holds Tryz.pinned (.plain (OpenSpec.ofChange matrixMultipliesSpec)) matrixMultipliesCard

/-- THE TIED CARD OF 'metrolablaw40.TorsorFits'. -/
def torsorFitsCard : Claim7 := { stood := { row := torsorFitsRow, standIns := [], harness := (true, "bd3ca8164d7474578540dccbb61cabf1bf428d9000a5875584b07e7621bc6e0f"), looks := true }, kinds := [], alts := [], laidByText := true, laidKinds := [.data, .data, .data, .data, .sentinel, .sentinel, .pinned], laidTests := true, laidLooks := .later }
def TorsorFitsCardSaid : Prop := Claim7.holds Tryz.pinned (.plain (OpenSpec.ofChange torsorFitsSpec)) torsorFitsCard

/-- THE TIED CARD OF 'metrolablaw40.TorsorMeets'. -/
def torsorMeetsCard : Claim7 := { stood := { row := torsorMeetsRow, standIns := [], harness := (true, "bd3ca8164d7474578540dccbb61cabf1bf428d9000a5875584b07e7621bc6e0f"), looks := true }, kinds := [], alts := [], laidByText := true, laidKinds := [.data, .data, .data, .data, .sentinel, .sentinel, .pinned], laidTests := true, laidLooks := .later }
def TorsorMeetsCardSaid : Prop := Claim7.holds Tryz.pinned (.plain (OpenSpec.ofChange torsorMeetsSpec)) torsorMeetsCard

/-- THE SECOND FORM's CARD OF 'metrolablaw40.TorsorApplies'. -/
def torsorAppliesUptoCard : Claim7 := { stood := { row := torsorAppliesUptoRow, standIns := [], harness := (true, "bd3ca8164d7474578540dccbb61cabf1bf428d9000a5875584b07e7621bc6e0f"), looks := true }, kinds := [], alts := [], laidByText := true, laidKinds := [.data, .data, .data, .data, .sentinel, .sentinel, .pinned], laidTests := true, laidLooks := .later }
def TorsorAppliesUptoCardSaid : Prop := Claim7.holds Tryz.pinned (.plain (OpenSpec.upto torsorAppliesSpec)) torsorAppliesUptoCard

/-- THE SECOND FORM's CARD OF 'metrolablaw40.TorsorForms'. -/
def torsorFormsUptoCard : Claim7 := { stood := { row := torsorFormsUptoRow, standIns := [], harness := (true, "bd3ca8164d7474578540dccbb61cabf1bf428d9000a5875584b07e7621bc6e0f"), looks := true }, kinds := [], alts := [], laidByText := true, laidKinds := [.data, .data, .data, .data, .sentinel, .sentinel, .pinned], laidTests := true, laidLooks := .later }
def TorsorFormsUptoCardSaid : Prop := Claim7.holds Tryz.pinned (.plain (OpenSpec.upto torsorFormsSpec)) torsorFormsUptoCard

/-- THE SECOND FORM's CARD OF 'metrolablaw40.TorsorTurns'. -/
def torsorTurnsUptoCard : Claim7 := { stood := { row := torsorTurnsUptoRow, standIns := [], harness := (true, "bd3ca8164d7474578540dccbb61cabf1bf428d9000a5875584b07e7621bc6e0f"), looks := true }, kinds := [], alts := [], laidByText := true, laidKinds := [.data, .data, .data, .data, .sentinel, .sentinel, .pinned], laidTests := true, laidLooks := .later }
def TorsorTurnsUptoCardSaid : Prop := Claim7.holds Tryz.pinned (.plain (OpenSpec.upto torsorTurnsSpec)) torsorTurnsUptoCard

/-- THE SECOND FORM's CARD OF 'metrolablaw40.TorsorKeeps'. -/
def torsorKeepsUptoCard : Claim7 := { stood := { row := torsorKeepsUptoRow, standIns := [], harness := (true, "bd3ca8164d7474578540dccbb61cabf1bf428d9000a5875584b07e7621bc6e0f"), looks := true }, kinds := [], alts := [], laidByText := true, laidKinds := [.data, .data, .data, .data, .sentinel, .sentinel, .pinned], laidTests := true, laidLooks := .later }
def TorsorKeepsUptoCardSaid : Prop := Claim7.holds Tryz.pinned (.plain (OpenSpec.upto torsorKeepsSpec)) torsorKeepsUptoCard

/-- THE SECOND FORM's CARD OF 'metrolablaw40.TorsorAdds'. -/
def torsorAddsUptoCard : Claim7 := { stood := { row := torsorAddsUptoRow, standIns := [], harness := (true, "bd3ca8164d7474578540dccbb61cabf1bf428d9000a5875584b07e7621bc6e0f"), looks := true }, kinds := [], alts := [], laidByText := true, laidKinds := [.data, .data, .data, .data, .sentinel, .sentinel, .pinned], laidTests := true, laidLooks := .later }
def TorsorAddsUptoCardSaid : Prop := Claim7.holds Tryz.pinned (.plain (OpenSpec.upto torsorAddsSpec)) torsorAddsUptoCard

/-- THE SECOND FORM's CARD OF 'metrolablaw04.MatrixReduces'. -/
def matrixReducesUptoCard : Claim7 := { stood := { row := matrixReducesUptoRow, standIns := [], harness := (true, "bd3ca8164d7474578540dccbb61cabf1bf428d9000a5875584b07e7621bc6e0f"), looks := true }, kinds := [], alts := [], laidByText := true, laidKinds := [.data, .data, .data, .data, .sentinel, .sentinel, .pinned], laidTests := true, laidLooks := .later }
def MatrixReducesUptoCardSaid : Prop := Claim7.holds Tryz.pinned (.plain (OpenSpec.upto matrixReducesSpec)) matrixReducesUptoCard

/-- THE SECOND FORM's CARD OF 'metrolablaw04.MatrixInverts'. -/
def matrixInvertsUptoCard : Claim7 := { stood := { row := matrixInvertsUptoRow, standIns := [], harness := (true, "bd3ca8164d7474578540dccbb61cabf1bf428d9000a5875584b07e7621bc6e0f"), looks := true }, kinds := [], alts := [], laidByText := true, laidKinds := [.data, .data, .data, .data, .sentinel, .sentinel, .pinned], laidTests := true, laidLooks := .later }
def MatrixInvertsUptoCardSaid : Prop := Claim7.holds Tryz.pinned (.plain (OpenSpec.upto matrixInvertsSpec)) matrixInvertsUptoCard

/-- THE SECOND FORM's CARD OF 'metrolablaw04.MatrixSolves'. -/
def matrixSolvesUptoCard : Claim7 := { stood := { row := matrixSolvesUptoRow, standIns := [], harness := (true, "bd3ca8164d7474578540dccbb61cabf1bf428d9000a5875584b07e7621bc6e0f"), looks := true }, kinds := [], alts := [], laidByText := true, laidKinds := [.data, .data, .data, .data, .sentinel, .sentinel, .pinned], laidTests := true, laidLooks := .later }
def MatrixSolvesUptoCardSaid : Prop := Claim7.holds Tryz.pinned (.plain (OpenSpec.upto matrixSolvesSpec)) matrixSolvesUptoCard

/-- THE SECOND FORM's CARD OF 'metrolablaw04.MatrixMakes'. -/
def matrixMakesUptoCard : Claim7 := { stood := { row := matrixMakesUptoRow, standIns := [], harness := (true, "bd3ca8164d7474578540dccbb61cabf1bf428d9000a5875584b07e7621bc6e0f"), looks := true }, kinds := [], alts := [], laidByText := true, laidKinds := [.data, .data, .data, .data, .sentinel, .sentinel, .pinned], laidTests := true, laidLooks := .later }
def MatrixMakesUptoCardSaid : Prop := Claim7.holds Tryz.pinned (.plain (OpenSpec.upto matrixMakesSpec)) matrixMakesUptoCard

/-- THE SECOND FORM's CARD OF 'metrolablaw04.MatrixAnswers'. -/
def matrixAnswersUptoCard : Claim7 := { stood := { row := matrixAnswersUptoRow, standIns := [], harness := (true, "bd3ca8164d7474578540dccbb61cabf1bf428d9000a5875584b07e7621bc6e0f"), looks := true }, kinds := [], alts := [], laidByText := true, laidKinds := [.data, .data, .data, .data, .sentinel, .sentinel, .pinned], laidTests := true, laidLooks := .later }
def MatrixAnswersUptoCardSaid : Prop := Claim7.holds Tryz.pinned (.plain (OpenSpec.upto matrixAnswersSpec)) matrixAnswersUptoCard

/-- THE SECOND FORM's CARD OF 'metrolablaw04.MatrixUndoes'. -/
def matrixUndoesUptoCard : Claim7 := { stood := { row := matrixUndoesUptoRow, standIns := [], harness := (true, "bd3ca8164d7474578540dccbb61cabf1bf428d9000a5875584b07e7621bc6e0f"), looks := true }, kinds := [], alts := [], laidByText := true, laidKinds := [.data, .data, .data, .data, .sentinel, .sentinel, .pinned], laidTests := true, laidLooks := .later }
def MatrixUndoesUptoCardSaid : Prop := Claim7.holds Tryz.pinned (.plain (OpenSpec.upto matrixUndoesSpec)) matrixUndoesUptoCard

/-- THE SECOND FORM's CARD OF 'metrolablaw04.MatrixSpans'. -/
def matrixSpansUptoCard : Claim7 := { stood := { row := matrixSpansUptoRow, standIns := [], harness := (true, "bd3ca8164d7474578540dccbb61cabf1bf428d9000a5875584b07e7621bc6e0f"), looks := true }, kinds := [], alts := [], laidByText := true, laidKinds := [.data, .data, .data, .data, .sentinel, .sentinel, .pinned], laidTests := true, laidLooks := .later }
def MatrixSpansUptoCardSaid : Prop := Claim7.holds Tryz.pinned (.plain (OpenSpec.upto matrixSpansSpec)) matrixSpansUptoCard

/-- THE SECOND FORM's CARD OF 'metrolablaw04.MatrixDetermines'. -/
def matrixDeterminesUptoCard : Claim7 := { stood := { row := matrixDeterminesUptoRow, standIns := [], harness := (true, "bd3ca8164d7474578540dccbb61cabf1bf428d9000a5875584b07e7621bc6e0f"), looks := true }, kinds := [], alts := [], laidByText := true, laidKinds := [.data, .data, .data, .data, .sentinel, .sentinel, .pinned], laidTests := true, laidLooks := .later }
def MatrixDeterminesUptoCardSaid : Prop := Claim7.holds Tryz.pinned (.plain (OpenSpec.upto matrixDeterminesSpec)) matrixDeterminesUptoCard

/-- THE SECOND FORM's CARD OF 'metrolablaw04.MatrixMultiplies'. -/
def matrixMultipliesUptoCard : Claim7 := { stood := { row := matrixMultipliesUptoRow, standIns := [], harness := (true, "bd3ca8164d7474578540dccbb61cabf1bf428d9000a5875584b07e7621bc6e0f"), looks := true }, kinds := [], alts := [], laidByText := true, laidKinds := [.data, .data, .data, .data, .sentinel, .sentinel, .pinned], laidTests := true, laidLooks := .later }
def MatrixMultipliesUptoCardSaid : Prop := Claim7.holds Tryz.pinned (.plain (OpenSpec.upto matrixMultipliesSpec)) matrixMultipliesUptoCard

/-- THE SECOND FORM's CARD OF 'metrolablaw40.TorsorFits'. -/
def torsorFitsUptoCard : Claim7 := { stood := { row := torsorFitsUptoRow, standIns := [], harness := (true, "bd3ca8164d7474578540dccbb61cabf1bf428d9000a5875584b07e7621bc6e0f"), looks := true }, kinds := [], alts := [], laidByText := true, laidKinds := [.data, .data, .data, .data, .sentinel, .sentinel, .pinned], laidTests := true, laidLooks := .later }
def TorsorFitsUptoCardSaid : Prop := Claim7.holds Tryz.pinned (.plain (OpenSpec.upto torsorFitsSpec)) torsorFitsUptoCard

/-- THE SECOND FORM's CARD OF 'metrolablaw40.TorsorMeets'. -/
def torsorMeetsUptoCard : Claim7 := { stood := { row := torsorMeetsUptoRow, standIns := [], harness := (true, "bd3ca8164d7474578540dccbb61cabf1bf428d9000a5875584b07e7621bc6e0f"), looks := true }, kinds := [], alts := [], laidByText := true, laidKinds := [.data, .data, .data, .data, .sentinel, .sentinel, .pinned], laidTests := true, laidLooks := .later }
def TorsorMeetsUptoCardSaid : Prop := Claim7.holds Tryz.pinned (.plain (OpenSpec.upto torsorMeetsSpec)) torsorMeetsUptoCard
end Rows
end Go.Proofs.YtbpegjgpdgeadaaGreatDoor
