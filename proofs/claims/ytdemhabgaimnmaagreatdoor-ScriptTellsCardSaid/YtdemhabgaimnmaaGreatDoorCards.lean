/-
  DERIVED. GIVEN WITH THE SEED: THE CARDS: each row of YtdemhabgaimnmaaGreatDoorRows.lean that lists a variable, with what it lists TIED to the program's text (the seventh form; the later family's looks); each row that meets fmt, with fmt's text TOLD by the authors' own Lean function (tested against real Go, not proved from fmt's source: count such statements apart). THE CARD IS WHAT COUNTS. Prove the row's statement (the work); the ties are given (YtdemhabgaimnmaaGreatDoorTie.lean); close each card by the builder's one call (the guide's Derived/Test/ToyasCard.lean, 'card_holds'). Laid BY PROGRAM, IN A SANDBOX (cutbox-door.mjs). By AI agents, Wed Nov 11 2026. No macro, syntax, notation, axiom, sorry.
-/
import Derived.Test.YtdemhabgaimnmaaGreatDoorRows
import GoSem.ClaimSeven
namespace Go.Proofs.YtdemhabgaimnmaaGreatDoor
namespace Rows

/-- THE TIED CARD OF 'knelllaw22.ScriptReads'. -/
def scriptReadsCard : Claim7 := { stood := { row := scriptReadsRow, standIns := [], harness := (true, "7ee59cfadd85b9d8d77ffc91b184254bf60d5ace98b6cf4c77b288a6fe9ad314"), looks := false }, kinds := [], alts := [], laidByText := true, laidKinds := [.data, .data, .data], laidTests := true, laidLooks := .later }
def ScriptReadsCardSaid : Prop := Claim7.holds Tryz.pinned (.plain (OpenSpec.ofChange scriptReadsSpec)) scriptReadsCard

/-- THE TIED CARD OF 'knelllaw22.ScriptErrs'. -/
def scriptErrsCard : Claim7 := { stood := { row := scriptErrsRow, standIns := [], harness := (true, "7ee59cfadd85b9d8d77ffc91b184254bf60d5ace98b6cf4c77b288a6fe9ad314"), looks := false }, kinds := [], alts := [], laidByText := true, laidKinds := [.data, .data, .data], laidTests := true, laidLooks := .later }
def ScriptErrsCardSaid : Prop := Claim7.holds Tryz.pinned (.plain (OpenSpec.ofChange scriptErrsSpec)) scriptErrsCard

/-- THE TIED CARD OF 'knelllaw22.ScriptCuts'. -/
def scriptCutsCard : Claim7 := { stood := { row := scriptCutsRow, standIns := [], harness := (true, "7ee59cfadd85b9d8d77ffc91b184254bf60d5ace98b6cf4c77b288a6fe9ad314"), looks := false }, kinds := [], alts := [], laidByText := true, laidKinds := [.data, .data, .data], laidTests := true, laidLooks := .later }
def ScriptCutsCardSaid : Prop := Claim7.holds Tryz.pinned (.plain (OpenSpec.ofChange scriptCutsSpec)) scriptCutsCard

/-- THE TIED CARD OF 'knelllaw22.ScriptRepeats'. -/
def scriptRepeatsCard : Claim7 := { stood := { row := scriptRepeatsRow, standIns := [], harness := (true, "7ee59cfadd85b9d8d77ffc91b184254bf60d5ace98b6cf4c77b288a6fe9ad314"), looks := false }, kinds := [], alts := [], laidByText := true, laidKinds := [.data, .data, .data], laidTests := true, laidLooks := .later }
def ScriptRepeatsCardSaid : Prop := Claim7.holds Tryz.pinned (.plain (OpenSpec.ofChange scriptRepeatsSpec)) scriptRepeatsCard

/-- THE TIED CARD OF 'knelllaw22.ScriptTells'. -/
def scriptTellsCard : Claim7 := { stood := { row := scriptTellsRow, standIns := [], harness := (true, "7ee59cfadd85b9d8d77ffc91b184254bf60d5ace98b6cf4c77b288a6fe9ad314"), looks := false }, kinds := [], alts := [], laidByText := true, laidKinds := [.data, .data, .data], laidTests := true, laidLooks := .later }
def ScriptTellsCardSaid : Prop := Claim7.holds Tryz.pinned (.plain (OpenSpec.ofChange scriptTellsSpec)) scriptTellsCard

/-- THE SECOND FORM's CARD OF 'knelllaw22.ScriptReads'. -/
def scriptReadsUptoCard : Claim7 := { stood := { row := scriptReadsUptoRow, standIns := [], harness := (true, "7ee59cfadd85b9d8d77ffc91b184254bf60d5ace98b6cf4c77b288a6fe9ad314"), looks := false }, kinds := [], alts := [], laidByText := true, laidKinds := [.data, .data, .data], laidTests := true, laidLooks := .later }
def ScriptReadsUptoCardSaid : Prop := Claim7.holds Tryz.pinned (.plain (OpenSpec.upto scriptReadsSpec)) scriptReadsUptoCard

/-- THE SECOND FORM's CARD OF 'knelllaw22.ScriptErrs'. -/
def scriptErrsUptoCard : Claim7 := { stood := { row := scriptErrsUptoRow, standIns := [], harness := (true, "7ee59cfadd85b9d8d77ffc91b184254bf60d5ace98b6cf4c77b288a6fe9ad314"), looks := false }, kinds := [], alts := [], laidByText := true, laidKinds := [.data, .data, .data], laidTests := true, laidLooks := .later }
def ScriptErrsUptoCardSaid : Prop := Claim7.holds Tryz.pinned (.plain (OpenSpec.upto scriptErrsSpec)) scriptErrsUptoCard

/-- THE SECOND FORM's CARD OF 'knelllaw22.ScriptCuts'. -/
def scriptCutsUptoCard : Claim7 := { stood := { row := scriptCutsUptoRow, standIns := [], harness := (true, "7ee59cfadd85b9d8d77ffc91b184254bf60d5ace98b6cf4c77b288a6fe9ad314"), looks := false }, kinds := [], alts := [], laidByText := true, laidKinds := [.data, .data, .data], laidTests := true, laidLooks := .later }
def ScriptCutsUptoCardSaid : Prop := Claim7.holds Tryz.pinned (.plain (OpenSpec.upto scriptCutsSpec)) scriptCutsUptoCard

/-- THE SECOND FORM's CARD OF 'knelllaw22.ScriptRepeats'. -/
def scriptRepeatsUptoCard : Claim7 := { stood := { row := scriptRepeatsUptoRow, standIns := [], harness := (true, "7ee59cfadd85b9d8d77ffc91b184254bf60d5ace98b6cf4c77b288a6fe9ad314"), looks := false }, kinds := [], alts := [], laidByText := true, laidKinds := [.data, .data, .data], laidTests := true, laidLooks := .later }
def ScriptRepeatsUptoCardSaid : Prop := Claim7.holds Tryz.pinned (.plain (OpenSpec.upto scriptRepeatsSpec)) scriptRepeatsUptoCard

/-- THE SECOND FORM's CARD OF 'knelllaw22.ScriptTells'. -/
def scriptTellsUptoCard : Claim7 := { stood := { row := scriptTellsUptoRow, standIns := [], harness := (true, "7ee59cfadd85b9d8d77ffc91b184254bf60d5ace98b6cf4c77b288a6fe9ad314"), looks := false }, kinds := [], alts := [], laidByText := true, laidKinds := [.data, .data, .data], laidTests := true, laidLooks := .later }
def ScriptTellsUptoCardSaid : Prop := Claim7.holds Tryz.pinned (.plain (OpenSpec.upto scriptTellsSpec)) scriptTellsUptoCard
end Rows
end Go.Proofs.YtdemhabgaimnmaaGreatDoor
