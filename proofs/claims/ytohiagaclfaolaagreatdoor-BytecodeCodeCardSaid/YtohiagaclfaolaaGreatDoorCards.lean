/-
  DERIVED. GIVEN WITH THE SEED: THE CARDS: each row of YtohiagaclfaolaaGreatDoorRows.lean that lists a variable, with what it lists TIED to the program's text (the seventh form; the later family's looks); each row that meets fmt, with fmt's text TOLD by the authors' own Lean function (tested against real Go, not proved from fmt's source: count such statements apart). THE CARD IS WHAT COUNTS. Prove the row's statement (the work); the ties are given (YtohiagaclfaolaaGreatDoorTie.lean); close each card by the builder's one call (the guide's Derived/Test/ToyasCard.lean, 'card_holds'). Laid BY PROGRAM, IN A SANDBOX (cutbox-door.mjs). By AI agents, Wed Nov 11 2026. No macro, syntax, notation, axiom, sorry.
-/
import Derived.Test.YtohiagaclfaolaaGreatDoorRows
import GoSem.ClaimSeven
namespace Go.Proofs.YtohiagaclfaolaaGreatDoor
namespace Rows

/-- THE TIED CARD OF 'framewiselaw52.BytecodeCode'. -/
def bytecodeCodeCard : Claim7 := { stood := { row := bytecodeCodeRow, standIns := [], harness := (true, "35c3b9e5398375e5bd8d288f0a2458647b8b2da43b30418c4b9b6ffcefac7be4"), looks := true }, kinds := [], alts := [], laidByText := true, laidKinds := [.data, .data, .data, .data, .sentinel, .sentinel, .pinned], laidTests := true, laidLooks := .later }
def BytecodeCodeCardSaid : Prop := Claim7.holds Tryz.pinned (.plain (OpenSpec.ofChange bytecodeCodeSpec)) bytecodeCodeCard

/-- THE TIED CARD OF 'framewiselaw52.BytecodeValid'. -/
def bytecodeValidCard : Claim7 := { stood := { row := bytecodeValidRow, standIns := [], harness := (true, "35c3b9e5398375e5bd8d288f0a2458647b8b2da43b30418c4b9b6ffcefac7be4"), looks := true }, kinds := [], alts := [], laidByText := true, laidKinds := [.data, .data, .data, .data, .sentinel, .sentinel, .pinned], laidTests := true, laidLooks := .later }
def BytecodeValidCardSaid : Prop := Claim7.holds Tryz.pinned (.plain (OpenSpec.ofChange bytecodeValidSpec)) bytecodeValidCard

/-- THE TIED CARD OF 'framewiselaw52.BytecodeText'. -/
def bytecodeTextCard : Claim7 := { stood := { row := bytecodeTextRow, standIns := [], harness := (true, "35c3b9e5398375e5bd8d288f0a2458647b8b2da43b30418c4b9b6ffcefac7be4"), looks := true }, kinds := [], alts := [], laidByText := true, laidKinds := [.data, .data, .data, .data, .sentinel, .sentinel, .pinned], laidTests := true, laidLooks := .later }
def BytecodeTextCardSaid : Prop := Claim7.holds Tryz.pinned (.plain (OpenSpec.ofChange bytecodeTextSpec)) bytecodeTextCard

/-- THE SECOND FORM's CARD OF 'framewiselaw52.BytecodeCode'. -/
def bytecodeCodeUptoCard : Claim7 := { stood := { row := bytecodeCodeUptoRow, standIns := [], harness := (true, "35c3b9e5398375e5bd8d288f0a2458647b8b2da43b30418c4b9b6ffcefac7be4"), looks := true }, kinds := [], alts := [], laidByText := true, laidKinds := [.data, .data, .data, .data, .sentinel, .sentinel, .pinned], laidTests := true, laidLooks := .later }
def BytecodeCodeUptoCardSaid : Prop := Claim7.holds Tryz.pinned (.plain (OpenSpec.upto bytecodeCodeSpec)) bytecodeCodeUptoCard

/-- THE SECOND FORM's CARD OF 'framewiselaw52.BytecodeValid'. -/
def bytecodeValidUptoCard : Claim7 := { stood := { row := bytecodeValidUptoRow, standIns := [], harness := (true, "35c3b9e5398375e5bd8d288f0a2458647b8b2da43b30418c4b9b6ffcefac7be4"), looks := true }, kinds := [], alts := [], laidByText := true, laidKinds := [.data, .data, .data, .data, .sentinel, .sentinel, .pinned], laidTests := true, laidLooks := .later }
def BytecodeValidUptoCardSaid : Prop := Claim7.holds Tryz.pinned (.plain (OpenSpec.upto bytecodeValidSpec)) bytecodeValidUptoCard

/-- THE SECOND FORM's CARD OF 'framewiselaw52.BytecodeText'. -/
def bytecodeTextUptoCard : Claim7 := { stood := { row := bytecodeTextUptoRow, standIns := [], harness := (true, "35c3b9e5398375e5bd8d288f0a2458647b8b2da43b30418c4b9b6ffcefac7be4"), looks := true }, kinds := [], alts := [], laidByText := true, laidKinds := [.data, .data, .data, .data, .sentinel, .sentinel, .pinned], laidTests := true, laidLooks := .later }
def BytecodeTextUptoCardSaid : Prop := Claim7.holds Tryz.pinned (.plain (OpenSpec.upto bytecodeTextSpec)) bytecodeTextUptoCard
end Rows
end Go.Proofs.YtohiagaclfaolaaGreatDoor
