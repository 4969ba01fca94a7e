/-
  No cell of these rows narrows 'for every input' (looked for: loops, veiled, ifaces, maps, wideKeys, modest, calm, conditions, laid).
  DERIVED. THE GIVEN ROWS OF THIS SEAT. 7 by the template 'for every input the law returns true; each argument reads behind the call as it read before'; 0 by the template 'total and deterministic' (their statements: YtbmogpafhdbfdaaTotals.lean).
  GIVEN WITH THE SEED: the statements are not yours to turn. If you find one false, say at which input.
  Laid BY PROGRAM, IN A SANDBOX (cutbox-rows.mjs): the forced cells as the released guide's own fill.sh prints them over the translation 3e81bfe3f2d1ffb0… (all of the seat's roots in one cut). By AI agents, Wed Nov 11 2026. No macro, syntax, notation, axiom, sorry.
-/
import Derived.Test.YtbmogpafhdbfdaaChecked
import GoSem.Claim
import GoSem.ClaimJoined
import GoSem.ClaimMapViews
import Derived.JoinedTies
import Derived.KernelRfl
namespace Go.Proofs.Ytbmogpafhdbfdaa
/- THE CELL 'sum', in the pinned program and in every row, IS THE sha256 OF THE DUMP (.gsa) THAT YtbmogpafhdbfdaaProg.lean LOADS. Nothing in Lean hashes anything: it is a label: what it is worth is what the hold of that sum in a sandbox is worth. -/
noncomputable def Try.pinned : Pinned := { name := "ytbmogpafhdbfdaa", sum := "3e81bfe3f2d1ffb0fd695015b2fe712035f137c6ac3e964b2091a27f69e7ffac", checked := Try.checked }
namespace Rows
def none {H : Type} : Left H := { results := [], args := [] }

/-- 'framewiselaw17.ElementApply': WHATEVER THE INPUT: true; the input reads as it did. -/
def elementApplySpec : ChangeSpec := { name := "elementApply", fn := fun _ => fun
  | [d1, d2] => { results := [.lit (.bool true)], args := [d1, d2] }
  | _ => none }
def elementApplyRow : OpenClaim := { program := "ytbmogpafhdbfdaa", sum := "3e81bfe3f2d1ffb0fd695015b2fe712035f137c6ac3e964b2091a27f69e7ffac", func := "framewise/framewiselaw17.ElementApply", spec := "elementApply", apart := false }
def ElementApplySaid : Prop := elementApplyRow.holds Try.pinned (OpenSpec.ofChange elementApplySpec)

/-- ITS FALSE NEIGHBOUR: 'it returns false'. Refute it at one input. -/
def elementApplyWrong : ChangeSpec := { name := "elementApply", fn := fun _ => fun
  | [d1, d2] => { results := [.lit (.bool false)], args := [d1, d2] }
  | _ => none }
def ElementApplyWrongFalsely : Prop := elementApplyRow.holds Try.pinned (OpenSpec.ofChange elementApplyWrong)

/-- 'framewiselaw17.ElementRing': WHATEVER THE INPUT: true; the input reads as it did. -/
def elementRingSpec : ChangeSpec := { name := "elementRing", fn := fun _ => fun
  | [d1, d2, d3] => { results := [.lit (.bool true)], args := [d1, d2, d3] }
  | _ => none }
def elementRingRow : OpenClaim := { program := "ytbmogpafhdbfdaa", sum := "3e81bfe3f2d1ffb0fd695015b2fe712035f137c6ac3e964b2091a27f69e7ffac", func := "framewise/framewiselaw17.ElementRing", spec := "elementRing", apart := false }
def ElementRingSaid : Prop := elementRingRow.holds Try.pinned (OpenSpec.ofChange elementRingSpec)

/-- ITS FALSE NEIGHBOUR: 'it returns false'. Refute it at one input. -/
def elementRingWrong : ChangeSpec := { name := "elementRing", fn := fun _ => fun
  | [d1, d2, d3] => { results := [.lit (.bool false)], args := [d1, d2, d3] }
  | _ => none }
def ElementRingWrongFalsely : Prop := elementRingRow.holds Try.pinned (OpenSpec.ofChange elementRingWrong)

/-- 'framewiselaw17.ElementDivision': WHATEVER THE INPUT: true; the input reads as it did. -/
def elementDivisionSpec : ChangeSpec := { name := "elementDivision", fn := fun _ => fun
  | [d1, d2] => { results := [.lit (.bool true)], args := [d1, d2] }
  | _ => none }
def elementDivisionRow : OpenClaim := { program := "ytbmogpafhdbfdaa", sum := "3e81bfe3f2d1ffb0fd695015b2fe712035f137c6ac3e964b2091a27f69e7ffac", func := "framewise/framewiselaw17.ElementDivision", spec := "elementDivision", apart := false }
def ElementDivisionSaid : Prop := elementDivisionRow.holds Try.pinned (OpenSpec.ofChange elementDivisionSpec)

/-- ITS FALSE NEIGHBOUR: 'it returns false'. Refute it at one input. -/
def elementDivisionWrong : ChangeSpec := { name := "elementDivision", fn := fun _ => fun
  | [d1, d2] => { results := [.lit (.bool false)], args := [d1, d2] }
  | _ => none }
def ElementDivisionWrongFalsely : Prop := elementDivisionRow.holds Try.pinned (OpenSpec.ofChange elementDivisionWrong)

/-- 'framewiselaw17.ElementOrder': WHATEVER THE INPUT: true; the input reads as it did. -/
def elementOrderSpec : ChangeSpec := { name := "elementOrder", fn := fun _ => fun
  | [d1, d2, d3] => { results := [.lit (.bool true)], args := [d1, d2, d3] }
  | _ => none }
def elementOrderRow : OpenClaim := { program := "ytbmogpafhdbfdaa", sum := "3e81bfe3f2d1ffb0fd695015b2fe712035f137c6ac3e964b2091a27f69e7ffac", func := "framewise/framewiselaw17.ElementOrder", spec := "elementOrder", apart := false }
def ElementOrderSaid : Prop := elementOrderRow.holds Try.pinned (OpenSpec.ofChange elementOrderSpec)

/-- ITS FALSE NEIGHBOUR: 'it returns false'. Refute it at one input. -/
def elementOrderWrong : ChangeSpec := { name := "elementOrder", fn := fun _ => fun
  | [d1, d2, d3] => { results := [.lit (.bool false)], args := [d1, d2, d3] }
  | _ => none }
def ElementOrderWrongFalsely : Prop := elementOrderRow.holds Try.pinned (OpenSpec.ofChange elementOrderWrong)

/-- 'framewiselaw17.ElementBool': WHATEVER THE INPUT: true; the input reads as it did. -/
def elementBoolSpec : ChangeSpec := { name := "elementBool", fn := fun _ => fun
  | [d1, d2] => { results := [.lit (.bool true)], args := [d1, d2] }
  | _ => none }
def elementBoolRow : OpenClaim := { program := "ytbmogpafhdbfdaa", sum := "3e81bfe3f2d1ffb0fd695015b2fe712035f137c6ac3e964b2091a27f69e7ffac", func := "framewise/framewiselaw17.ElementBool", spec := "elementBool", apart := false }
def ElementBoolSaid : Prop := elementBoolRow.holds Try.pinned (OpenSpec.ofChange elementBoolSpec)

/-- ITS FALSE NEIGHBOUR: 'it returns false'. Refute it at one input. -/
def elementBoolWrong : ChangeSpec := { name := "elementBool", fn := fun _ => fun
  | [d1, d2] => { results := [.lit (.bool false)], args := [d1, d2] }
  | _ => none }
def ElementBoolWrongFalsely : Prop := elementBoolRow.holds Try.pinned (OpenSpec.ofChange elementBoolWrong)

/-- 'framewiselaw17.ElementWrap': WHATEVER THE INPUT: true; the input reads as it did. -/
def elementWrapSpec : ChangeSpec := { name := "elementWrap", fn := fun _ => fun
  | [d1, d2] => { results := [.lit (.bool true)], args := [d1, d2] }
  | _ => none }
def elementWrapRow : OpenClaim := { program := "ytbmogpafhdbfdaa", sum := "3e81bfe3f2d1ffb0fd695015b2fe712035f137c6ac3e964b2091a27f69e7ffac", func := "framewise/framewiselaw17.ElementWrap", spec := "elementWrap", apart := false }
def ElementWrapSaid : Prop := elementWrapRow.holds Try.pinned (OpenSpec.ofChange elementWrapSpec)

/-- ITS FALSE NEIGHBOUR: 'it returns false'. Refute it at one input. -/
def elementWrapWrong : ChangeSpec := { name := "elementWrap", fn := fun _ => fun
  | [d1, d2] => { results := [.lit (.bool false)], args := [d1, d2] }
  | _ => none }
def ElementWrapWrongFalsely : Prop := elementWrapRow.holds Try.pinned (OpenSpec.ofChange elementWrapWrong)

/-- 'framewiselaw17.ElementTypes': WHATEVER THE INPUT: true; the input reads as it did. -/
def elementTypesSpec : ChangeSpec := { name := "elementTypes", fn := fun _ => fun
  | [d1, d2, d3] => { results := [.lit (.bool true)], args := [d1, d2, d3] }
  | _ => none }
def elementTypesRow : OpenClaim := { program := "ytbmogpafhdbfdaa", sum := "3e81bfe3f2d1ffb0fd695015b2fe712035f137c6ac3e964b2091a27f69e7ffac", func := "framewise/framewiselaw17.ElementTypes", spec := "elementTypes", apart := false }
def ElementTypesSaid : Prop := elementTypesRow.holds Try.pinned (OpenSpec.ofChange elementTypesSpec)

/-- ITS FALSE NEIGHBOUR: 'it returns false'. Refute it at one input. -/
def elementTypesWrong : ChangeSpec := { name := "elementTypes", fn := fun _ => fun
  | [d1, d2, d3] => { results := [.lit (.bool false)], args := [d1, d2, d3] }
  | _ => none }
def ElementTypesWrongFalsely : Prop := elementTypesRow.holds Try.pinned (OpenSpec.ofChange elementTypesWrong)

/- THE SECOND FORM. 'bulk': how many values and letters a reading holds, each counted each time it is reached (what is shared counts as often as it is met; a slice's spare places count too). A statement '..UptoSaid' is the law's where the arguments, and the package variables that the reading takes, are together of bulk at most 1048576: NARROWER than '..Said'. Prove '..Said' where nothing that the law and all that it calls make is longer than what came in: it says more and counts as full. Else prove '..UptoSaid'. A law counts once. -/
mutual
def uptoBulk {H : Type} : DataW H → Nat
  | .lit (.string bytes) => bytes.length + 1
  | .lit _ => 1
  | .nil => 1
  | .ptr d => uptoBulk d + 1
  | .slice elems spare => uptoBulkAll elems + uptoBulkAll spare + 1
  | .agg parts => uptoBulkAll parts + 1
  | .iface _ d => uptoBulk d + 1
  | .map entries => uptoBulkEntries entries + 1
  | .held _ => 1
def uptoBulkAll {H : Type} : List (DataW H) → Nat
  | [] => 0
  | d :: r => uptoBulk d + uptoBulkAll r
def uptoBulkEntries {H : Type} : List (Lit × DataW H) → Nat
  | [] => 0
  | x :: r => uptoBulkEntry x + uptoBulkEntries r
def uptoBulkEntry {H : Type} : Lit × DataW H → Nat
  | (.string bytes, d) => bytes.length + uptoBulk d + 1
  | (_, d) => uptoBulk d + 1
 end
def uptoSmall : (H : Type) → List (DataW H) → Bool := fun _ ds => decide (uptoBulkAll ds ≤ 1048576)
def OpenSpec.upto (s : _root_.Go.ChangeSpec) : _root_.Go.OpenSpec := { _root_.Go.OpenSpec.ofChange s with cond := some uptoSmall }

/-- 'framewiselaw17.ElementApply', WHERE WHAT IT READS IS OF BULK AT MOST 1048576: true; the input reads as it did. -/
def elementApplyUptoRow : OpenClaim := { program := "ytbmogpafhdbfdaa", sum := "3e81bfe3f2d1ffb0fd695015b2fe712035f137c6ac3e964b2091a27f69e7ffac", func := "framewise/framewiselaw17.ElementApply", spec := "elementApply", apart := false, narrowed := true }
def ElementApplyUptoSaid : Prop := elementApplyUptoRow.holds Try.pinned (OpenSpec.upto elementApplySpec)

/-- 'framewiselaw17.ElementRing', WHERE WHAT IT READS IS OF BULK AT MOST 1048576: true; the input reads as it did. -/
def elementRingUptoRow : OpenClaim := { program := "ytbmogpafhdbfdaa", sum := "3e81bfe3f2d1ffb0fd695015b2fe712035f137c6ac3e964b2091a27f69e7ffac", func := "framewise/framewiselaw17.ElementRing", spec := "elementRing", apart := false, narrowed := true }
def ElementRingUptoSaid : Prop := elementRingUptoRow.holds Try.pinned (OpenSpec.upto elementRingSpec)

/-- 'framewiselaw17.ElementDivision', WHERE WHAT IT READS IS OF BULK AT MOST 1048576: true; the input reads as it did. -/
def elementDivisionUptoRow : OpenClaim := { program := "ytbmogpafhdbfdaa", sum := "3e81bfe3f2d1ffb0fd695015b2fe712035f137c6ac3e964b2091a27f69e7ffac", func := "framewise/framewiselaw17.ElementDivision", spec := "elementDivision", apart := false, narrowed := true }
def ElementDivisionUptoSaid : Prop := elementDivisionUptoRow.holds Try.pinned (OpenSpec.upto elementDivisionSpec)

/-- 'framewiselaw17.ElementOrder', WHERE WHAT IT READS IS OF BULK AT MOST 1048576: true; the input reads as it did. -/
def elementOrderUptoRow : OpenClaim := { program := "ytbmogpafhdbfdaa", sum := "3e81bfe3f2d1ffb0fd695015b2fe712035f137c6ac3e964b2091a27f69e7ffac", func := "framewise/framewiselaw17.ElementOrder", spec := "elementOrder", apart := false, narrowed := true }
def ElementOrderUptoSaid : Prop := elementOrderUptoRow.holds Try.pinned (OpenSpec.upto elementOrderSpec)

/-- 'framewiselaw17.ElementBool', WHERE WHAT IT READS IS OF BULK AT MOST 1048576: true; the input reads as it did. -/
def elementBoolUptoRow : OpenClaim := { program := "ytbmogpafhdbfdaa", sum := "3e81bfe3f2d1ffb0fd695015b2fe712035f137c6ac3e964b2091a27f69e7ffac", func := "framewise/framewiselaw17.ElementBool", spec := "elementBool", apart := false, narrowed := true }
def ElementBoolUptoSaid : Prop := elementBoolUptoRow.holds Try.pinned (OpenSpec.upto elementBoolSpec)

/-- 'framewiselaw17.ElementWrap', WHERE WHAT IT READS IS OF BULK AT MOST 1048576: true; the input reads as it did. -/
def elementWrapUptoRow : OpenClaim := { program := "ytbmogpafhdbfdaa", sum := "3e81bfe3f2d1ffb0fd695015b2fe712035f137c6ac3e964b2091a27f69e7ffac", func := "framewise/framewiselaw17.ElementWrap", spec := "elementWrap", apart := false, narrowed := true }
def ElementWrapUptoSaid : Prop := elementWrapUptoRow.holds Try.pinned (OpenSpec.upto elementWrapSpec)

/-- 'framewiselaw17.ElementTypes', WHERE WHAT IT READS IS OF BULK AT MOST 1048576: true; the input reads as it did. -/
def elementTypesUptoRow : OpenClaim := { program := "ytbmogpafhdbfdaa", sum := "3e81bfe3f2d1ffb0fd695015b2fe712035f137c6ac3e964b2091a27f69e7ffac", func := "framewise/framewiselaw17.ElementTypes", spec := "elementTypes", apart := false, narrowed := true }
def ElementTypesUptoSaid : Prop := elementTypesUptoRow.holds Try.pinned (OpenSpec.upto elementTypesSpec)

end Rows
end Go.Proofs.Ytbmogpafhdbfdaa
