/-
  DERIVED. GIVEN WITH THE SEED: THE CARDS: each row of YtohiagaclfaolaaDoorRows.lean that lists a variable, with what it lists TIED to the program's text (the seventh form; the later family's looks); each row that meets fmt, with fmt's text TOLD by the authors' own Lean function (tested against real Go, not proved from fmt's source: count such statements apart). THE CARD IS WHAT COUNTS. Prove the row's statement (the work); the ties are given (YtohiagaclfaolaaDoorTie.lean); close each card by the builder's one call (the guide's Derived/Test/ToyasCard.lean, 'card_holds'). Laid BY PROGRAM, IN A SANDBOX (cutbox-door.mjs). By AI agents, Wed Nov 11 2026. No macro, syntax, notation, axiom, sorry.
-/
import Derived.Test.YtohiagaclfaolaaDoorRows
import GoSem.ClaimSeven
namespace Go.Proofs.YtohiagaclfaolaaDoor
namespace Rows

/-- THE TIED CARD OF 'framewiselaw52.BytecodeMatch'. -/
def bytecodeMatchCard : Claim7 := { stood := { row := bytecodeMatchRow, standIns := [], harness := (true, "b42c4c682b5b854a091005181f37c1785179fc5e884a215c21bec132ee072ac1"), looks := true }, kinds := [], alts := [], laidByText := true, laidKinds := [.data, .data, .data, .data, .sentinel, .sentinel, .pinned], laidTests := true, laidLooks := .later }
def BytecodeMatchCardSaid : Prop := Claim7.holds Tryd.pinned (.plain (OpenSpec.ofChange bytecodeMatchSpec)) bytecodeMatchCard

/-- THE TIED CARD OF 'framewiselaw52.BytecodeInsert'. -/
def bytecodeInsertCard : Claim7 := { stood := { row := bytecodeInsertRow, standIns := [], harness := (true, "b42c4c682b5b854a091005181f37c1785179fc5e884a215c21bec132ee072ac1"), looks := true }, kinds := [], alts := [], laidByText := true, laidKinds := [.data, .data, .data, .data, .sentinel, .sentinel, .pinned], laidTests := true, laidLooks := .later }
def BytecodeInsertCardSaid : Prop := Claim7.holds Tryd.pinned (.plain (OpenSpec.ofChange bytecodeInsertSpec)) bytecodeInsertCard

/-- THE TIED CARD OF 'framewiselaw52.BytecodeOps'. -/
def bytecodeOpsCard : Claim7 := { stood := { row := bytecodeOpsRow, standIns := [], harness := (true, "b42c4c682b5b854a091005181f37c1785179fc5e884a215c21bec132ee072ac1"), looks := true }, kinds := [], alts := [], laidByText := true, laidKinds := [.data, .data, .data, .data, .sentinel, .sentinel, .pinned], laidTests := true, laidLooks := .later }
def BytecodeOpsCardSaid : Prop := Claim7.holds Tryd.pinned (.plain (OpenSpec.ofChange bytecodeOpsSpec)) bytecodeOpsCard

/-- THE SECOND FORM's CARD OF 'framewiselaw52.BytecodeMatch'. -/
def bytecodeMatchUptoCard : Claim7 := { stood := { row := bytecodeMatchUptoRow, standIns := [], harness := (true, "b42c4c682b5b854a091005181f37c1785179fc5e884a215c21bec132ee072ac1"), looks := true }, kinds := [], alts := [], laidByText := true, laidKinds := [.data, .data, .data, .data, .sentinel, .sentinel, .pinned], laidTests := true, laidLooks := .later }
def BytecodeMatchUptoCardSaid : Prop := Claim7.holds Tryd.pinned (.plain (OpenSpec.upto bytecodeMatchSpec)) bytecodeMatchUptoCard

/-- THE SECOND FORM's CARD OF 'framewiselaw52.BytecodeInsert'. -/
def bytecodeInsertUptoCard : Claim7 := { stood := { row := bytecodeInsertUptoRow, standIns := [], harness := (true, "b42c4c682b5b854a091005181f37c1785179fc5e884a215c21bec132ee072ac1"), looks := true }, kinds := [], alts := [], laidByText := true, laidKinds := [.data, .data, .data, .data, .sentinel, .sentinel, .pinned], laidTests := true, laidLooks := .later }
def BytecodeInsertUptoCardSaid : Prop := Claim7.holds Tryd.pinned (.plain (OpenSpec.upto bytecodeInsertSpec)) bytecodeInsertUptoCard

/-- THE SECOND FORM's CARD OF 'framewiselaw52.BytecodeOps'. -/
def bytecodeOpsUptoCard : Claim7 := { stood := { row := bytecodeOpsUptoRow, standIns := [], harness := (true, "b42c4c682b5b854a091005181f37c1785179fc5e884a215c21bec132ee072ac1"), looks := true }, kinds := [], alts := [], laidByText := true, laidKinds := [.data, .data, .data, .data, .sentinel, .sentinel, .pinned], laidTests := true, laidLooks := .later }
def BytecodeOpsUptoCardSaid : Prop := Claim7.holds Tryd.pinned (.plain (OpenSpec.upto bytecodeOpsSpec)) bytecodeOpsUptoCard
end Rows
end Go.Proofs.YtohiagaclfaolaaDoor
