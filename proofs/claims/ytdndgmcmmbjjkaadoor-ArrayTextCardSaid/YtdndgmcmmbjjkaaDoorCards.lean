/-
  DERIVED. GIVEN WITH THE SEED: THE CARDS: each row of YtdndgmcmmbjjkaaDoorRows.lean that lists a variable, with what it lists TIED to the program's text (the seventh form; the later family's looks); each row that meets fmt, with fmt's text TOLD by the authors' own Lean function (tested against real Go, not proved from fmt's source: count such statements apart). THE CARD IS WHAT COUNTS. Prove the row's statement (the work); the ties are given (YtdndgmcmmbjjkaaDoorTie.lean); close each card by the builder's one call (the guide's Derived/Test/ToyasCard.lean, 'card_holds'). Laid BY PROGRAM, IN A SANDBOX (cutbox-door.mjs). By AI agents, Wed Nov 11 2026. No macro, syntax, notation, axiom, sorry.
-/
import Derived.Test.YtdndgmcmmbjjkaaDoorRows
import GoSem.ClaimSeven
namespace Go.Proofs.YtdndgmcmmbjjkaaDoor
namespace Rows

/-- THE TIED CARD OF 'framewiselaw18.ArrayText'. -/
def arrayTextCard : Claim7 := { stood := { row := arrayTextRow, standIns := [], harness := (true, "4ef772d345619d96b79b3c749d54ab78111cb22e43428d26c03795e727d8cef2"), looks := true }, kinds := [], alts := [], laidByText := true, laidKinds := [.data, .data, .data, .sentinel, .sentinel, .listed, .data], laidTests := true, laidLooks := .later }
def ArrayTextCardSaid : Prop := Claim7.holds Tryd.pinned (.plain (OpenSpec.ofChange arrayTextSpec)) arrayTextCard

/-- THE SECOND FORM's CARD OF 'framewiselaw18.ArrayText'. -/
def arrayTextUptoCard : Claim7 := { stood := { row := arrayTextUptoRow, standIns := [], harness := (true, "4ef772d345619d96b79b3c749d54ab78111cb22e43428d26c03795e727d8cef2"), looks := true }, kinds := [], alts := [], laidByText := true, laidKinds := [.data, .data, .data, .sentinel, .sentinel, .listed, .data], laidTests := true, laidLooks := .later }
def ArrayTextUptoCardSaid : Prop := Claim7.holds Tryd.pinned (.plain (OpenSpec.upto arrayTextSpec)) arrayTextUptoCard
end Rows
end Go.Proofs.YtdndgmcmmbjjkaaDoor
