/-
  No cell of these rows narrows 'for every input' (looked for: loops, veiled, ifaces, maps, wideKeys, modest, calm, conditions, laid).
  DERIVED. THE GIVEN ROWS OF THIS SEAT. 7 by the template 'for every input the law returns true; each argument reads behind the call as it read before'; 0 by the template 'total and deterministic' (their statements: YtgkjocnfdllieaaTotals.lean).
  GIVEN WITH THE SEED: the statements are not yours to turn. If you find one false, say at which input.
  Laid BY PROGRAM, IN A SANDBOX (cutbox-rows.mjs): the forced cells as the released guide's own fill.sh prints them over the translation fb2509c526f371b4… (all of the seat's roots in one cut). By AI agents, Wed Nov 11 2026. No macro, syntax, notation, axiom, sorry.
-/
import Derived.Test.YtgkjocnfdllieaaChecked
import GoSem.Claim
import GoSem.ClaimJoined
import GoSem.ClaimMapViews
import Derived.JoinedTies
import Derived.KernelRfl
namespace Go.Proofs.Ytgkjocnfdllieaa
/- THE CELL 'sum', in the pinned program and in every row, IS THE sha256 OF THE DUMP (.gsa) THAT YtgkjocnfdllieaaProg.lean LOADS. Nothing in Lean hashes anything: it is a label: what it is worth is what the hold of that sum in a sandbox is worth. -/
noncomputable def Try.pinned : Pinned := { name := "ytgkjocnfdllieaa", sum := "fb2509c526f371b4ab9eb548ff6a86e21dbc0887cf0e9aacd85b96dc44b72ce0", checked := Try.checked }
namespace Rows
def none {H : Type} : Left H := { results := [], args := [] }

/-- 'framewiselaw01.WireCanonical': WHATEVER THE INPUT: true; the input reads as it did. -/
def wireCanonicalSpec : ChangeSpec := { name := "wireCanonical", fn := fun _ => fun
  | [d] => { results := [.lit (.bool true)], args := [d] }
  | _ => none }
def wireCanonicalRow : OpenClaim := { program := "ytgkjocnfdllieaa", sum := "fb2509c526f371b4ab9eb548ff6a86e21dbc0887cf0e9aacd85b96dc44b72ce0", func := "framewise/framewiselaw01.WireCanonical", spec := "wireCanonical", unfollowed := true, recurses := true, apart := false }
def WireCanonicalSaid : Prop := wireCanonicalRow.holds Try.pinned (OpenSpec.ofChange wireCanonicalSpec)

/-- ITS FALSE NEIGHBOUR: 'it returns false'. Refute it at one input. -/
def wireCanonicalWrong : ChangeSpec := { name := "wireCanonical", fn := fun _ => fun
  | [d] => { results := [.lit (.bool false)], args := [d] }
  | _ => none }
def WireCanonicalWrongFalsely : Prop := wireCanonicalRow.holds Try.pinned (OpenSpec.ofChange wireCanonicalWrong)

/-- 'framewiselaw01.WireOrder': WHATEVER THE INPUT: true; the input reads as it did. -/
def wireOrderSpec : ChangeSpec := { name := "wireOrder", fn := fun _ => fun
  | [d1, d2] => { results := [.lit (.bool true)], args := [d1, d2] }
  | _ => none }
def wireOrderRow : OpenClaim := { program := "ytgkjocnfdllieaa", sum := "fb2509c526f371b4ab9eb548ff6a86e21dbc0887cf0e9aacd85b96dc44b72ce0", func := "framewise/framewiselaw01.WireOrder", spec := "wireOrder", unfollowed := true, recurses := true, apart := false }
def WireOrderSaid : Prop := wireOrderRow.holds Try.pinned (OpenSpec.ofChange wireOrderSpec)

/-- ITS FALSE NEIGHBOUR: 'it returns false'. Refute it at one input. -/
def wireOrderWrong : ChangeSpec := { name := "wireOrder", fn := fun _ => fun
  | [d1, d2] => { results := [.lit (.bool false)], args := [d1, d2] }
  | _ => none }
def WireOrderWrongFalsely : Prop := wireOrderRow.holds Try.pinned (OpenSpec.ofChange wireOrderWrong)

/-- 'framewiselaw01.WireWrites': WHATEVER THE INPUT: true; the input reads as it did. -/
def wireWritesSpec : ChangeSpec := { name := "wireWrites", fn := fun _ => fun
  | [d1, d2, d3] => { results := [.lit (.bool true)], args := [d1, d2, d3] }
  | _ => none }
def wireWritesRow : OpenClaim := { program := "ytgkjocnfdllieaa", sum := "fb2509c526f371b4ab9eb548ff6a86e21dbc0887cf0e9aacd85b96dc44b72ce0", func := "framewise/framewiselaw01.WireWrites", spec := "wireWrites", unfollowed := true, recurses := true, apart := false }
def WireWritesSaid : Prop := wireWritesRow.holds Try.pinned (OpenSpec.ofChange wireWritesSpec)

/-- ITS FALSE NEIGHBOUR: 'it returns false'. Refute it at one input. -/
def wireWritesWrong : ChangeSpec := { name := "wireWrites", fn := fun _ => fun
  | [d1, d2, d3] => { results := [.lit (.bool false)], args := [d1, d2, d3] }
  | _ => none }
def WireWritesWrongFalsely : Prop := wireWritesRow.holds Try.pinned (OpenSpec.ofChange wireWritesWrong)

/-- 'framewiselaw01.WireLimits': WHATEVER THE INPUT: true; the input reads as it did. -/
def wireLimitsSpec : ChangeSpec := { name := "wireLimits", fn := fun _ => fun
  | [d1, d2, d3] => { results := [.lit (.bool true)], args := [d1, d2, d3] }
  | _ => none }
def wireLimitsRow : OpenClaim := { program := "ytgkjocnfdllieaa", sum := "fb2509c526f371b4ab9eb548ff6a86e21dbc0887cf0e9aacd85b96dc44b72ce0", func := "framewise/framewiselaw01.WireLimits", spec := "wireLimits", unfollowed := true, recurses := true, apart := false }
def WireLimitsSaid : Prop := wireLimitsRow.holds Try.pinned (OpenSpec.ofChange wireLimitsSpec)

/-- ITS FALSE NEIGHBOUR: 'it returns false'. Refute it at one input. -/
def wireLimitsWrong : ChangeSpec := { name := "wireLimits", fn := fun _ => fun
  | [d1, d2, d3] => { results := [.lit (.bool false)], args := [d1, d2, d3] }
  | _ => none }
def WireLimitsWrongFalsely : Prop := wireLimitsRow.holds Try.pinned (OpenSpec.ofChange wireLimitsWrong)

/-- 'framewiselaw01.WireReads': WHATEVER THE INPUT: true; the input reads as it did. -/
def wireReadsSpec : ChangeSpec := { name := "wireReads", fn := fun _ => fun
  | [d1, d2] => { results := [.lit (.bool true)], args := [d1, d2] }
  | _ => none }
def wireReadsRow : OpenClaim := { program := "ytgkjocnfdllieaa", sum := "fb2509c526f371b4ab9eb548ff6a86e21dbc0887cf0e9aacd85b96dc44b72ce0", func := "framewise/framewiselaw01.WireReads", spec := "wireReads", unfollowed := true, recurses := true, apart := false }
def WireReadsSaid : Prop := wireReadsRow.holds Try.pinned (OpenSpec.ofChange wireReadsSpec)

/-- ITS FALSE NEIGHBOUR: 'it returns false'. Refute it at one input. -/
def wireReadsWrong : ChangeSpec := { name := "wireReads", fn := fun _ => fun
  | [d1, d2] => { results := [.lit (.bool false)], args := [d1, d2] }
  | _ => none }
def WireReadsWrongFalsely : Prop := wireReadsRow.holds Try.pinned (OpenSpec.ofChange wireReadsWrong)

/-- 'framewiselaw01.WireErrors': WHATEVER THE INPUT: true; the input reads as it did. -/
def wireErrorsSpec : ChangeSpec := { name := "wireErrors", fn := fun _ => fun
  | [d1, d2, d3] => { results := [.lit (.bool true)], args := [d1, d2, d3] }
  | _ => none }
def wireErrorsRow : OpenClaim := { program := "ytgkjocnfdllieaa", sum := "fb2509c526f371b4ab9eb548ff6a86e21dbc0887cf0e9aacd85b96dc44b72ce0", func := "framewise/framewiselaw01.WireErrors", spec := "wireErrors", unfollowed := true, recurses := true, apart := false }
def WireErrorsSaid : Prop := wireErrorsRow.holds Try.pinned (OpenSpec.ofChange wireErrorsSpec)

/-- ITS FALSE NEIGHBOUR: 'it returns false'. Refute it at one input. -/
def wireErrorsWrong : ChangeSpec := { name := "wireErrors", fn := fun _ => fun
  | [d1, d2, d3] => { results := [.lit (.bool false)], args := [d1, d2, d3] }
  | _ => none }
def WireErrorsWrongFalsely : Prop := wireErrorsRow.holds Try.pinned (OpenSpec.ofChange wireErrorsWrong)

/-- 'framewiselaw01.WireInverse': WHATEVER THE INPUT: true; the input reads as it did. -/
def wireInverseSpec : ChangeSpec := { name := "wireInverse", fn := fun _ => fun
  | [d1, d2, d3] => { results := [.lit (.bool true)], args := [d1, d2, d3] }
  | _ => none }
def wireInverseRow : OpenClaim := { program := "ytgkjocnfdllieaa", sum := "fb2509c526f371b4ab9eb548ff6a86e21dbc0887cf0e9aacd85b96dc44b72ce0", func := "framewise/framewiselaw01.WireInverse", spec := "wireInverse", unfollowed := true, recurses := true, apart := false }
def WireInverseSaid : Prop := wireInverseRow.holds Try.pinned (OpenSpec.ofChange wireInverseSpec)

/-- ITS FALSE NEIGHBOUR: 'it returns false'. Refute it at one input. -/
def wireInverseWrong : ChangeSpec := { name := "wireInverse", fn := fun _ => fun
  | [d1, d2, d3] => { results := [.lit (.bool false)], args := [d1, d2, d3] }
  | _ => none }
def WireInverseWrongFalsely : Prop := wireInverseRow.holds Try.pinned (OpenSpec.ofChange wireInverseWrong)

/- THE SECOND FORM. 'bulk': how many values and letters a reading holds, each counted each time it is reached (what is shared counts as often as it is met; a slice's spare places count too). A statement '..UptoSaid' is the law's where the arguments, and the package variables that the reading takes, are together of bulk at most 1048576: NARROWER than '..Said'. Prove '..Said' where nothing that the law and all that it calls make is longer than what came in: it says more and counts as full. Else prove '..UptoSaid'. A law counts once. -/
mutual
def uptoBulk {H : Type} : DataW H → Nat
  | .lit (.string bytes) => bytes.length + 1
  | .lit _ => 1
  | .nil => 1
  | .ptr d => uptoBulk d + 1
  | .slice elems spare => uptoBulkAll elems + uptoBulkAll spare + 1
  | .agg parts => uptoBulkAll parts + 1
  | .iface _ d => uptoBulk d + 1
  | .map entries => uptoBulkEntries entries + 1
  | .held _ => 1
def uptoBulkAll {H : Type} : List (DataW H) → Nat
  | [] => 0
  | d :: r => uptoBulk d + uptoBulkAll r
def uptoBulkEntries {H : Type} : List (Lit × DataW H) → Nat
  | [] => 0
  | x :: r => uptoBulkEntry x + uptoBulkEntries r
def uptoBulkEntry {H : Type} : Lit × DataW H → Nat
  | (.string bytes, d) => bytes.length + uptoBulk d + 1
  | (_, d) => uptoBulk d + 1
 end
def uptoSmall : (H : Type) → List (DataW H) → Bool := fun _ ds => decide (uptoBulkAll ds ≤ 1048576)
def OpenSpec.upto (s : _root_.Go.ChangeSpec) : _root_.Go.OpenSpec := { _root_.Go.OpenSpec.ofChange s with cond := some uptoSmall }

/-- 'framewiselaw01.WireCanonical', WHERE WHAT IT READS IS OF BULK AT MOST 1048576: true; the input reads as it did. -/
def wireCanonicalUptoRow : OpenClaim := { program := "ytgkjocnfdllieaa", sum := "fb2509c526f371b4ab9eb548ff6a86e21dbc0887cf0e9aacd85b96dc44b72ce0", func := "framewise/framewiselaw01.WireCanonical", spec := "wireCanonical", unfollowed := true, recurses := true, apart := false, narrowed := true }
def WireCanonicalUptoSaid : Prop := wireCanonicalUptoRow.holds Try.pinned (OpenSpec.upto wireCanonicalSpec)

/-- 'framewiselaw01.WireOrder', WHERE WHAT IT READS IS OF BULK AT MOST 1048576: true; the input reads as it did. -/
def wireOrderUptoRow : OpenClaim := { program := "ytgkjocnfdllieaa", sum := "fb2509c526f371b4ab9eb548ff6a86e21dbc0887cf0e9aacd85b96dc44b72ce0", func := "framewise/framewiselaw01.WireOrder", spec := "wireOrder", unfollowed := true, recurses := true, apart := false, narrowed := true }
def WireOrderUptoSaid : Prop := wireOrderUptoRow.holds Try.pinned (OpenSpec.upto wireOrderSpec)

/-- 'framewiselaw01.WireWrites', WHERE WHAT IT READS IS OF BULK AT MOST 1048576: true; the input reads as it did. -/
def wireWritesUptoRow : OpenClaim := { program := "ytgkjocnfdllieaa", sum := "fb2509c526f371b4ab9eb548ff6a86e21dbc0887cf0e9aacd85b96dc44b72ce0", func := "framewise/framewiselaw01.WireWrites", spec := "wireWrites", unfollowed := true, recurses := true, apart := false, narrowed := true }
def WireWritesUptoSaid : Prop := wireWritesUptoRow.holds Try.pinned (OpenSpec.upto wireWritesSpec)

/-- 'framewiselaw01.WireLimits', WHERE WHAT IT READS IS OF BULK AT MOST 1048576: true; the input reads as it did. -/
def wireLimitsUptoRow : OpenClaim := { program := "ytgkjocnfdllieaa", sum := "fb2509c526f371b4ab9eb548ff6a86e21dbc0887cf0e9aacd85b96dc44b72ce0", func := "framewise/framewiselaw01.WireLimits", spec := "wireLimits", unfollowed := true, recurses := true, apart := false, narrowed := true }
def WireLimitsUptoSaid : Prop := wireLimitsUptoRow.holds Try.pinned (OpenSpec.upto wireLimitsSpec)

/-- 'framewiselaw01.WireReads', WHERE WHAT IT READS IS OF BULK AT MOST 1048576: true; the input reads as it did. -/
def wireReadsUptoRow : OpenClaim := { program := "ytgkjocnfdllieaa", sum := "fb2509c526f371b4ab9eb548ff6a86e21dbc0887cf0e9aacd85b96dc44b72ce0", func := "framewise/framewiselaw01.WireReads", spec := "wireReads", unfollowed := true, recurses := true, apart := false, narrowed := true }
def WireReadsUptoSaid : Prop := wireReadsUptoRow.holds Try.pinned (OpenSpec.upto wireReadsSpec)

/-- 'framewiselaw01.WireErrors', WHERE WHAT IT READS IS OF BULK AT MOST 1048576: true; the input reads as it did. -/
def wireErrorsUptoRow : OpenClaim := { program := "ytgkjocnfdllieaa", sum := "fb2509c526f371b4ab9eb548ff6a86e21dbc0887cf0e9aacd85b96dc44b72ce0", func := "framewise/framewiselaw01.WireErrors", spec := "wireErrors", unfollowed := true, recurses := true, apart := false, narrowed := true }
def WireErrorsUptoSaid : Prop := wireErrorsUptoRow.holds Try.pinned (OpenSpec.upto wireErrorsSpec)

/-- 'framewiselaw01.WireInverse', WHERE WHAT IT READS IS OF BULK AT MOST 1048576: true; the input reads as it did. -/
def wireInverseUptoRow : OpenClaim := { program := "ytgkjocnfdllieaa", sum := "fb2509c526f371b4ab9eb548ff6a86e21dbc0887cf0e9aacd85b96dc44b72ce0", func := "framewise/framewiselaw01.WireInverse", spec := "wireInverse", unfollowed := true, recurses := true, apart := false, narrowed := true }
def WireInverseUptoSaid : Prop := wireInverseUptoRow.holds Try.pinned (OpenSpec.upto wireInverseSpec)

end Rows
end Go.Proofs.Ytgkjocnfdllieaa
