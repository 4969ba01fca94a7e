/-
  No cell of these rows narrows 'for every input' (looked for: loops, veiled, ifaces, maps, wideKeys, modest, calm, conditions, laid).
  DERIVED. THE GIVEN ROWS OF THIS SEAT. 12 by the template 'for every input the law returns true; each argument reads behind the call as it read before'; 0 by the template 'total and deterministic' (their statements: YtcjjakhmpffopaaTotals.lean).
  GIVEN WITH THE SEED: the statements are not yours to turn. If you find one false, say at which input.
  Laid BY PROGRAM, IN A SANDBOX (cutbox-rows.mjs): the forced cells as the released guide's own fill.sh prints them over the translation b7b87e0438b3e89d… (all of the seat's roots in one cut). By AI agents, Wed Nov 11 2026. No macro, syntax, notation, axiom, sorry.
-/
import Derived.Test.YtcjjakhmpffopaaChecked
import GoSem.Claim
import GoSem.ClaimJoined
import GoSem.ClaimMapViews
import Derived.JoinedTies
import Derived.KernelRfl
namespace Go.Proofs.Ytcjjakhmpffopaa
/- THE CELL 'sum', in the pinned program and in every row, IS THE sha256 OF THE DUMP (.gsa) THAT YtcjjakhmpffopaaProg.lean LOADS. Nothing in Lean hashes anything: it is a label: what it is worth is what the hold of that sum in a sandbox is worth. -/
noncomputable def Try.pinned : Pinned := { name := "ytcjjakhmpffopaa", sum := "b7b87e0438b3e89d691f9d678b4325436844d7ce0b72c67b2413d22ae3223f37", checked := Try.checked }
namespace Rows
def none {H : Type} : Left H := { results := [], args := [] }

/-- 'framewiselaw20.CellsFrame': WHATEVER THE INPUT: true; the input reads as it did. -/
def cellsFrameSpec : ChangeSpec := { name := "cellsFrame", fn := fun _ => fun
  | [d1, d2] => { results := [.lit (.bool true)], args := [d1, d2] }
  | _ => none }
def cellsFrameRow : OpenClaim := { program := "ytcjjakhmpffopaa", sum := "b7b87e0438b3e89d691f9d678b4325436844d7ce0b72c67b2413d22ae3223f37", func := "framewise/framewiselaw20.CellsFrame", spec := "cellsFrame", unfollowed := true, recurses := true, apart := false }
def CellsFrameSaid : Prop := cellsFrameRow.holds Try.pinned (OpenSpec.ofChange cellsFrameSpec)

/-- ITS FALSE NEIGHBOUR: 'it returns false'. Refute it at one input. -/
def cellsFrameWrong : ChangeSpec := { name := "cellsFrame", fn := fun _ => fun
  | [d1, d2] => { results := [.lit (.bool false)], args := [d1, d2] }
  | _ => none }
def CellsFrameWrongFalsely : Prop := cellsFrameRow.holds Try.pinned (OpenSpec.ofChange cellsFrameWrong)

/-- 'framewiselaw20.CellsSplit': WHATEVER THE INPUT: true; the input reads as it did. -/
def cellsSplitSpec : ChangeSpec := { name := "cellsSplit", fn := fun _ => fun
  | [d1, d2, d3] => { results := [.lit (.bool true)], args := [d1, d2, d3] }
  | _ => none }
def cellsSplitRow : OpenClaim := { program := "ytcjjakhmpffopaa", sum := "b7b87e0438b3e89d691f9d678b4325436844d7ce0b72c67b2413d22ae3223f37", func := "framewise/framewiselaw20.CellsSplit", spec := "cellsSplit", unfollowed := true, recurses := true, apart := false }
def CellsSplitSaid : Prop := cellsSplitRow.holds Try.pinned (OpenSpec.ofChange cellsSplitSpec)

/-- ITS FALSE NEIGHBOUR: 'it returns false'. Refute it at one input. -/
def cellsSplitWrong : ChangeSpec := { name := "cellsSplit", fn := fun _ => fun
  | [d1, d2, d3] => { results := [.lit (.bool false)], args := [d1, d2, d3] }
  | _ => none }
def CellsSplitWrongFalsely : Prop := cellsSplitRow.holds Try.pinned (OpenSpec.ofChange cellsSplitWrong)

/-- 'framewiselaw20.CellsCheck': WHATEVER THE INPUT: true; the input reads as it did. -/
def cellsCheckSpec : ChangeSpec := { name := "cellsCheck", fn := fun _ => fun
  | [d1, d2, d3] => { results := [.lit (.bool true)], args := [d1, d2, d3] }
  | _ => none }
def cellsCheckRow : OpenClaim := { program := "ytcjjakhmpffopaa", sum := "b7b87e0438b3e89d691f9d678b4325436844d7ce0b72c67b2413d22ae3223f37", func := "framewise/framewiselaw20.CellsCheck", spec := "cellsCheck", unfollowed := true, recurses := true, apart := false }
def CellsCheckSaid : Prop := cellsCheckRow.holds Try.pinned (OpenSpec.ofChange cellsCheckSpec)

/-- ITS FALSE NEIGHBOUR: 'it returns false'. Refute it at one input. -/
def cellsCheckWrong : ChangeSpec := { name := "cellsCheck", fn := fun _ => fun
  | [d1, d2, d3] => { results := [.lit (.bool false)], args := [d1, d2, d3] }
  | _ => none }
def CellsCheckWrongFalsely : Prop := cellsCheckRow.holds Try.pinned (OpenSpec.ofChange cellsCheckWrong)

/-- 'framewiselaw20.CellsAgree': WHATEVER THE INPUT: true; the input reads as it did. -/
def cellsAgreeSpec : ChangeSpec := { name := "cellsAgree", fn := fun _ => fun
  | [d1, d2] => { results := [.lit (.bool true)], args := [d1, d2] }
  | _ => none }
def cellsAgreeRow : OpenClaim := { program := "ytcjjakhmpffopaa", sum := "b7b87e0438b3e89d691f9d678b4325436844d7ce0b72c67b2413d22ae3223f37", func := "framewise/framewiselaw20.CellsAgree", spec := "cellsAgree", unfollowed := true, recurses := true, apart := false }
def CellsAgreeSaid : Prop := cellsAgreeRow.holds Try.pinned (OpenSpec.ofChange cellsAgreeSpec)

/-- ITS FALSE NEIGHBOUR: 'it returns false'. Refute it at one input. -/
def cellsAgreeWrong : ChangeSpec := { name := "cellsAgree", fn := fun _ => fun
  | [d1, d2] => { results := [.lit (.bool false)], args := [d1, d2] }
  | _ => none }
def CellsAgreeWrongFalsely : Prop := cellsAgreeRow.holds Try.pinned (OpenSpec.ofChange cellsAgreeWrong)

/-- 'framewiselaw20.CellsJoin': WHATEVER THE INPUT: true; the input reads as it did. -/
def cellsJoinSpec : ChangeSpec := { name := "cellsJoin", fn := fun _ => fun
  | [d1, d2, d3] => { results := [.lit (.bool true)], args := [d1, d2, d3] }
  | _ => none }
def cellsJoinRow : OpenClaim := { program := "ytcjjakhmpffopaa", sum := "b7b87e0438b3e89d691f9d678b4325436844d7ce0b72c67b2413d22ae3223f37", func := "framewise/framewiselaw20.CellsJoin", spec := "cellsJoin", unfollowed := true, recurses := true, apart := false }
def CellsJoinSaid : Prop := cellsJoinRow.holds Try.pinned (OpenSpec.ofChange cellsJoinSpec)

/-- ITS FALSE NEIGHBOUR: 'it returns false'. Refute it at one input. -/
def cellsJoinWrong : ChangeSpec := { name := "cellsJoin", fn := fun _ => fun
  | [d1, d2, d3] => { results := [.lit (.bool false)], args := [d1, d2, d3] }
  | _ => none }
def CellsJoinWrongFalsely : Prop := cellsJoinRow.holds Try.pinned (OpenSpec.ofChange cellsJoinWrong)

/-- 'framewiselaw20.CellsBack': WHATEVER THE INPUT: true; the input reads as it did. -/
def cellsBackSpec : ChangeSpec := { name := "cellsBack", fn := fun _ => fun
  | [d1, d2] => { results := [.lit (.bool true)], args := [d1, d2] }
  | _ => none }
def cellsBackRow : OpenClaim := { program := "ytcjjakhmpffopaa", sum := "b7b87e0438b3e89d691f9d678b4325436844d7ce0b72c67b2413d22ae3223f37", func := "framewise/framewiselaw20.CellsBack", spec := "cellsBack", unfollowed := true, recurses := true, apart := false }
def CellsBackSaid : Prop := cellsBackRow.holds Try.pinned (OpenSpec.ofChange cellsBackSpec)

/-- ITS FALSE NEIGHBOUR: 'it returns false'. Refute it at one input. -/
def cellsBackWrong : ChangeSpec := { name := "cellsBack", fn := fun _ => fun
  | [d1, d2] => { results := [.lit (.bool false)], args := [d1, d2] }
  | _ => none }
def CellsBackWrongFalsely : Prop := cellsBackRow.holds Try.pinned (OpenSpec.ofChange cellsBackWrong)

/-- 'framewiselaw21.StructureApply': WHATEVER THE INPUT: true; the input reads as it did. -/
def structureApplySpec : ChangeSpec := { name := "structureApply", fn := fun _ => fun
  | [d1, d2, d3] => { results := [.lit (.bool true)], args := [d1, d2, d3] }
  | _ => none }
def structureApplyRow : OpenClaim := { program := "ytcjjakhmpffopaa", sum := "b7b87e0438b3e89d691f9d678b4325436844d7ce0b72c67b2413d22ae3223f37", func := "framewise/framewiselaw21.StructureApply", spec := "structureApply", unfollowed := true, recurses := true, apart := false }
def StructureApplySaid : Prop := structureApplyRow.holds Try.pinned (OpenSpec.ofChange structureApplySpec)

/-- ITS FALSE NEIGHBOUR: 'it returns false'. Refute it at one input. -/
def structureApplyWrong : ChangeSpec := { name := "structureApply", fn := fun _ => fun
  | [d1, d2, d3] => { results := [.lit (.bool false)], args := [d1, d2, d3] }
  | _ => none }
def StructureApplyWrongFalsely : Prop := structureApplyRow.holds Try.pinned (OpenSpec.ofChange structureApplyWrong)

/-- 'framewiselaw21.StructureLists': WHATEVER THE INPUT: true; the input reads as it did. -/
def structureListsSpec : ChangeSpec := { name := "structureLists", fn := fun _ => fun
  | [d1, d2, d3] => { results := [.lit (.bool true)], args := [d1, d2, d3] }
  | _ => none }
def structureListsRow : OpenClaim := { program := "ytcjjakhmpffopaa", sum := "b7b87e0438b3e89d691f9d678b4325436844d7ce0b72c67b2413d22ae3223f37", func := "framewise/framewiselaw21.StructureLists", spec := "structureLists", unfollowed := true, recurses := true, apart := false }
def StructureListsSaid : Prop := structureListsRow.holds Try.pinned (OpenSpec.ofChange structureListsSpec)

/-- ITS FALSE NEIGHBOUR: 'it returns false'. Refute it at one input. -/
def structureListsWrong : ChangeSpec := { name := "structureLists", fn := fun _ => fun
  | [d1, d2, d3] => { results := [.lit (.bool false)], args := [d1, d2, d3] }
  | _ => none }
def StructureListsWrongFalsely : Prop := structureListsRow.holds Try.pinned (OpenSpec.ofChange structureListsWrong)

/-- 'framewiselaw21.StructureMatrices': WHATEVER THE INPUT: true; the input reads as it did. -/
def structureMatricesSpec : ChangeSpec := { name := "structureMatrices", fn := fun _ => fun
  | [d] => { results := [.lit (.bool true)], args := [d] }
  | _ => none }
def structureMatricesRow : OpenClaim := { program := "ytcjjakhmpffopaa", sum := "b7b87e0438b3e89d691f9d678b4325436844d7ce0b72c67b2413d22ae3223f37", func := "framewise/framewiselaw21.StructureMatrices", spec := "structureMatrices", unfollowed := true, recurses := true, apart := false }
def StructureMatricesSaid : Prop := structureMatricesRow.holds Try.pinned (OpenSpec.ofChange structureMatricesSpec)

/-- ITS FALSE NEIGHBOUR: 'it returns false'. Refute it at one input. -/
def structureMatricesWrong : ChangeSpec := { name := "structureMatrices", fn := fun _ => fun
  | [d] => { results := [.lit (.bool false)], args := [d] }
  | _ => none }
def StructureMatricesWrongFalsely : Prop := structureMatricesRow.holds Try.pinned (OpenSpec.ofChange structureMatricesWrong)

/-- 'framewiselaw21.StructureElements': WHATEVER THE INPUT: true; the input reads as it did. -/
def structureElementsSpec : ChangeSpec := { name := "structureElements", fn := fun _ => fun
  | [d1, d2, d3] => { results := [.lit (.bool true)], args := [d1, d2, d3] }
  | _ => none }
def structureElementsRow : OpenClaim := { program := "ytcjjakhmpffopaa", sum := "b7b87e0438b3e89d691f9d678b4325436844d7ce0b72c67b2413d22ae3223f37", func := "framewise/framewiselaw21.StructureElements", spec := "structureElements", unfollowed := true, recurses := true, apart := false }
def StructureElementsSaid : Prop := structureElementsRow.holds Try.pinned (OpenSpec.ofChange structureElementsSpec)

/-- ITS FALSE NEIGHBOUR: 'it returns false'. Refute it at one input. -/
def structureElementsWrong : ChangeSpec := { name := "structureElements", fn := fun _ => fun
  | [d1, d2, d3] => { results := [.lit (.bool false)], args := [d1, d2, d3] }
  | _ => none }
def StructureElementsWrongFalsely : Prop := structureElementsRow.holds Try.pinned (OpenSpec.ofChange structureElementsWrong)

/-- 'framewiselaw21.StructureRenames': WHATEVER THE INPUT: true; the input reads as it did. -/
def structureRenamesSpec : ChangeSpec := { name := "structureRenames", fn := fun _ => fun
  | [d1, d2, d3] => { results := [.lit (.bool true)], args := [d1, d2, d3] }
  | _ => none }
def structureRenamesRow : OpenClaim := { program := "ytcjjakhmpffopaa", sum := "b7b87e0438b3e89d691f9d678b4325436844d7ce0b72c67b2413d22ae3223f37", func := "framewise/framewiselaw21.StructureRenames", spec := "structureRenames", unfollowed := true, recurses := true, apart := false }
def StructureRenamesSaid : Prop := structureRenamesRow.holds Try.pinned (OpenSpec.ofChange structureRenamesSpec)

/-- ITS FALSE NEIGHBOUR: 'it returns false'. Refute it at one input. -/
def structureRenamesWrong : ChangeSpec := { name := "structureRenames", fn := fun _ => fun
  | [d1, d2, d3] => { results := [.lit (.bool false)], args := [d1, d2, d3] }
  | _ => none }
def StructureRenamesWrongFalsely : Prop := structureRenamesRow.holds Try.pinned (OpenSpec.ofChange structureRenamesWrong)

/-- 'framewiselaw21.StructureForms': WHATEVER THE INPUT: true; the input reads as it did. -/
def structureFormsSpec : ChangeSpec := { name := "structureForms", fn := fun _ => fun
  | [d1, d2, d3] => { results := [.lit (.bool true)], args := [d1, d2, d3] }
  | _ => none }
def structureFormsRow : OpenClaim := { program := "ytcjjakhmpffopaa", sum := "b7b87e0438b3e89d691f9d678b4325436844d7ce0b72c67b2413d22ae3223f37", func := "framewise/framewiselaw21.StructureForms", spec := "structureForms", unfollowed := true, recurses := true, apart := false }
def StructureFormsSaid : Prop := structureFormsRow.holds Try.pinned (OpenSpec.ofChange structureFormsSpec)

/-- ITS FALSE NEIGHBOUR: 'it returns false'. Refute it at one input. -/
def structureFormsWrong : ChangeSpec := { name := "structureForms", fn := fun _ => fun
  | [d1, d2, d3] => { results := [.lit (.bool false)], args := [d1, d2, d3] }
  | _ => none }
def StructureFormsWrongFalsely : Prop := structureFormsRow.holds Try.pinned (OpenSpec.ofChange structureFormsWrong)

/- THE SECOND FORM. 'bulk': how many values and letters a reading holds, each counted each time it is reached (what is shared counts as often as it is met; a slice's spare places count too). A statement '..UptoSaid' is the law's where the arguments, and the package variables that the reading takes, are together of bulk at most 1048576: NARROWER than '..Said'. Prove '..Said' where nothing that the law and all that it calls make is longer than what came in: it says more and counts as full. Else prove '..UptoSaid'. A law counts once. -/
mutual
def uptoBulk {H : Type} : DataW H → Nat
  | .lit (.string bytes) => bytes.length + 1
  | .lit _ => 1
  | .nil => 1
  | .ptr d => uptoBulk d + 1
  | .slice elems spare => uptoBulkAll elems + uptoBulkAll spare + 1
  | .agg parts => uptoBulkAll parts + 1
  | .iface _ d => uptoBulk d + 1
  | .map entries => uptoBulkEntries entries + 1
  | .held _ => 1
def uptoBulkAll {H : Type} : List (DataW H) → Nat
  | [] => 0
  | d :: r => uptoBulk d + uptoBulkAll r
def uptoBulkEntries {H : Type} : List (Lit × DataW H) → Nat
  | [] => 0
  | x :: r => uptoBulkEntry x + uptoBulkEntries r
def uptoBulkEntry {H : Type} : Lit × DataW H → Nat
  | (.string bytes, d) => bytes.length + uptoBulk d + 1
  | (_, d) => uptoBulk d + 1
 end
def uptoSmall : (H : Type) → List (DataW H) → Bool := fun _ ds => decide (uptoBulkAll ds ≤ 1048576)
def OpenSpec.upto (s : _root_.Go.ChangeSpec) : _root_.Go.OpenSpec := { _root_.Go.OpenSpec.ofChange s with cond := some uptoSmall }

/-- 'framewiselaw20.CellsFrame', WHERE WHAT IT READS IS OF BULK AT MOST 1048576: true; the input reads as it did. -/
def cellsFrameUptoRow : OpenClaim := { program := "ytcjjakhmpffopaa", sum := "b7b87e0438b3e89d691f9d678b4325436844d7ce0b72c67b2413d22ae3223f37", func := "framewise/framewiselaw20.CellsFrame", spec := "cellsFrame", unfollowed := true, recurses := true, apart := false, narrowed := true }
def CellsFrameUptoSaid : Prop := cellsFrameUptoRow.holds Try.pinned (OpenSpec.upto cellsFrameSpec)

/-- 'framewiselaw20.CellsSplit', WHERE WHAT IT READS IS OF BULK AT MOST 1048576: true; the input reads as it did. -/
def cellsSplitUptoRow : OpenClaim := { program := "ytcjjakhmpffopaa", sum := "b7b87e0438b3e89d691f9d678b4325436844d7ce0b72c67b2413d22ae3223f37", func := "framewise/framewiselaw20.CellsSplit", spec := "cellsSplit", unfollowed := true, recurses := true, apart := false, narrowed := true }
def CellsSplitUptoSaid : Prop := cellsSplitUptoRow.holds Try.pinned (OpenSpec.upto cellsSplitSpec)

/-- 'framewiselaw20.CellsCheck', WHERE WHAT IT READS IS OF BULK AT MOST 1048576: true; the input reads as it did. -/
def cellsCheckUptoRow : OpenClaim := { program := "ytcjjakhmpffopaa", sum := "b7b87e0438b3e89d691f9d678b4325436844d7ce0b72c67b2413d22ae3223f37", func := "framewise/framewiselaw20.CellsCheck", spec := "cellsCheck", unfollowed := true, recurses := true, apart := false, narrowed := true }
def CellsCheckUptoSaid : Prop := cellsCheckUptoRow.holds Try.pinned (OpenSpec.upto cellsCheckSpec)

/-- 'framewiselaw20.CellsAgree', WHERE WHAT IT READS IS OF BULK AT MOST 1048576: true; the input reads as it did. -/
def cellsAgreeUptoRow : OpenClaim := { program := "ytcjjakhmpffopaa", sum := "b7b87e0438b3e89d691f9d678b4325436844d7ce0b72c67b2413d22ae3223f37", func := "framewise/framewiselaw20.CellsAgree", spec := "cellsAgree", unfollowed := true, recurses := true, apart := false, narrowed := true }
def CellsAgreeUptoSaid : Prop := cellsAgreeUptoRow.holds Try.pinned (OpenSpec.upto cellsAgreeSpec)

/-- 'framewiselaw20.CellsJoin', WHERE WHAT IT READS IS OF BULK AT MOST 1048576: true; the input reads as it did. -/
def cellsJoinUptoRow : OpenClaim := { program := "ytcjjakhmpffopaa", sum := "b7b87e0438b3e89d691f9d678b4325436844d7ce0b72c67b2413d22ae3223f37", func := "framewise/framewiselaw20.CellsJoin", spec := "cellsJoin", unfollowed := true, recurses := true, apart := false, narrowed := true }
def CellsJoinUptoSaid : Prop := cellsJoinUptoRow.holds Try.pinned (OpenSpec.upto cellsJoinSpec)

/-- 'framewiselaw20.CellsBack', WHERE WHAT IT READS IS OF BULK AT MOST 1048576: true; the input reads as it did. -/
def cellsBackUptoRow : OpenClaim := { program := "ytcjjakhmpffopaa", sum := "b7b87e0438b3e89d691f9d678b4325436844d7ce0b72c67b2413d22ae3223f37", func := "framewise/framewiselaw20.CellsBack", spec := "cellsBack", unfollowed := true, recurses := true, apart := false, narrowed := true }
def CellsBackUptoSaid : Prop := cellsBackUptoRow.holds Try.pinned (OpenSpec.upto cellsBackSpec)

/-- 'framewiselaw21.StructureApply', WHERE WHAT IT READS IS OF BULK AT MOST 1048576: true; the input reads as it did. -/
def structureApplyUptoRow : OpenClaim := { program := "ytcjjakhmpffopaa", sum := "b7b87e0438b3e89d691f9d678b4325436844d7ce0b72c67b2413d22ae3223f37", func := "framewise/framewiselaw21.StructureApply", spec := "structureApply", unfollowed := true, recurses := true, apart := false, narrowed := true }
def StructureApplyUptoSaid : Prop := structureApplyUptoRow.holds Try.pinned (OpenSpec.upto structureApplySpec)

/-- 'framewiselaw21.StructureLists', WHERE WHAT IT READS IS OF BULK AT MOST 1048576: true; the input reads as it did. -/
def structureListsUptoRow : OpenClaim := { program := "ytcjjakhmpffopaa", sum := "b7b87e0438b3e89d691f9d678b4325436844d7ce0b72c67b2413d22ae3223f37", func := "framewise/framewiselaw21.StructureLists", spec := "structureLists", unfollowed := true, recurses := true, apart := false, narrowed := true }
def StructureListsUptoSaid : Prop := structureListsUptoRow.holds Try.pinned (OpenSpec.upto structureListsSpec)

/-- 'framewiselaw21.StructureMatrices', WHERE WHAT IT READS IS OF BULK AT MOST 1048576: true; the input reads as it did. -/
def structureMatricesUptoRow : OpenClaim := { program := "ytcjjakhmpffopaa", sum := "b7b87e0438b3e89d691f9d678b4325436844d7ce0b72c67b2413d22ae3223f37", func := "framewise/framewiselaw21.StructureMatrices", spec := "structureMatrices", unfollowed := true, recurses := true, apart := false, narrowed := true }
def StructureMatricesUptoSaid : Prop := structureMatricesUptoRow.holds Try.pinned (OpenSpec.upto structureMatricesSpec)

/-- 'framewiselaw21.StructureElements', WHERE WHAT IT READS IS OF BULK AT MOST 1048576: true; the input reads as it did. -/
def structureElementsUptoRow : OpenClaim := { program := "ytcjjakhmpffopaa", sum := "b7b87e0438b3e89d691f9d678b4325436844d7ce0b72c67b2413d22ae3223f37", func := "framewise/framewiselaw21.StructureElements", spec := "structureElements", unfollowed := true, recurses := true, apart := false, narrowed := true }
def StructureElementsUptoSaid : Prop := structureElementsUptoRow.holds Try.pinned (OpenSpec.upto structureElementsSpec)

/-- 'framewiselaw21.StructureRenames', WHERE WHAT IT READS IS OF BULK AT MOST 1048576: true; the input reads as it did. -/
def structureRenamesUptoRow : OpenClaim := { program := "ytcjjakhmpffopaa", sum := "b7b87e0438b3e89d691f9d678b4325436844d7ce0b72c67b2413d22ae3223f37", func := "framewise/framewiselaw21.StructureRenames", spec := "structureRenames", unfollowed := true, recurses := true, apart := false, narrowed := true }
def StructureRenamesUptoSaid : Prop := structureRenamesUptoRow.holds Try.pinned (OpenSpec.upto structureRenamesSpec)

/-- 'framewiselaw21.StructureForms', WHERE WHAT IT READS IS OF BULK AT MOST 1048576: true; the input reads as it did. -/
def structureFormsUptoRow : OpenClaim := { program := "ytcjjakhmpffopaa", sum := "b7b87e0438b3e89d691f9d678b4325436844d7ce0b72c67b2413d22ae3223f37", func := "framewise/framewiselaw21.StructureForms", spec := "structureForms", unfollowed := true, recurses := true, apart := false, narrowed := true }
def StructureFormsUptoSaid : Prop := structureFormsUptoRow.holds Try.pinned (OpenSpec.upto structureFormsSpec)

end Rows
end Go.Proofs.Ytcjjakhmpffopaa
