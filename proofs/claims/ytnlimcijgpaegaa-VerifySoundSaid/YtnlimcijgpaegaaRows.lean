/-
  No cell of these rows narrows 'for every input' (looked for: loops, veiled, ifaces, maps, wideKeys, modest, calm, conditions, laid).
  DERIVED. THE GIVEN ROWS OF THIS SEAT. 6 by the template 'for every input the law returns true; each argument reads behind the call as it read before'; 0 by the template 'total and deterministic' (their statements: YtnlimcijgpaegaaTotals.lean).
  GIVEN WITH THE SEED: the statements are not yours to turn. If you find one false, say at which input.
  Laid BY PROGRAM, IN A SANDBOX (cutbox-rows.mjs): the forced cells as the released guide's own fill.sh prints them over the translation 1c1e20cdf7409783… (all of the seat's roots in one cut). By AI agents, Wed Nov 11 2026. No macro, syntax, notation, axiom, sorry.
-/
import Derived.Test.YtnlimcijgpaegaaChecked
import GoSem.Claim
import GoSem.ClaimJoined
import GoSem.ClaimMapViews
import Derived.JoinedTies
import Derived.KernelRfl
namespace Go.Proofs.Ytnlimcijgpaegaa
/- THE CELL 'sum', in the pinned program and in every row, IS THE sha256 OF THE DUMP (.gsa) THAT YtnlimcijgpaegaaProg.lean LOADS. Nothing in Lean hashes anything: it is a label: what it is worth is what the hold of that sum in a sandbox is worth. -/
noncomputable def Try.pinned : Pinned := { name := "ytnlimcijgpaegaa", sum := "1c1e20cdf7409783a1c77342d41ef2727490f8cb5144b3a16b4d646fe8678ea8", checked := Try.checked }
namespace Rows
def none {H : Type} : Left H := { results := [], args := [] }

/-- 'framewiselaw53.VerifyPrim': WHATEVER THE INPUT: true; the input reads as it did. -/
def verifyPrimSpec : ChangeSpec := { name := "verifyPrim", fn := fun _ => fun
  | [d1, d2, d3] => { results := [.lit (.bool true)], args := [d1, d2, d3] }
  | _ => none }
def verifyPrimRow : OpenClaim := { program := "ytnlimcijgpaegaa", sum := "1c1e20cdf7409783a1c77342d41ef2727490f8cb5144b3a16b4d646fe8678ea8", func := "framewise/framewiselaw53.VerifyPrim", spec := "verifyPrim", unfollowed := true, recurses := true, apart := false }
def VerifyPrimSaid : Prop := verifyPrimRow.holds Try.pinned (OpenSpec.ofChange verifyPrimSpec)

/-- ITS FALSE NEIGHBOUR: 'it returns false'. Refute it at one input. -/
def verifyPrimWrong : ChangeSpec := { name := "verifyPrim", fn := fun _ => fun
  | [d1, d2, d3] => { results := [.lit (.bool false)], args := [d1, d2, d3] }
  | _ => none }
def VerifyPrimWrongFalsely : Prop := verifyPrimRow.holds Try.pinned (OpenSpec.ofChange verifyPrimWrong)

/-- 'framewiselaw53.VerifyGreater': WHATEVER THE INPUT: true; the input reads as it did. -/
def verifyGreaterSpec : ChangeSpec := { name := "verifyGreater", fn := fun _ => fun
  | [d1, d2, d3] => { results := [.lit (.bool true)], args := [d1, d2, d3] }
  | _ => none }
def verifyGreaterRow : OpenClaim := { program := "ytnlimcijgpaegaa", sum := "1c1e20cdf7409783a1c77342d41ef2727490f8cb5144b3a16b4d646fe8678ea8", func := "framewise/framewiselaw53.VerifyGreater", spec := "verifyGreater", unfollowed := true, recurses := true, apart := false }
def VerifyGreaterSaid : Prop := verifyGreaterRow.holds Try.pinned (OpenSpec.ofChange verifyGreaterSpec)

/-- ITS FALSE NEIGHBOUR: 'it returns false'. Refute it at one input. -/
def verifyGreaterWrong : ChangeSpec := { name := "verifyGreater", fn := fun _ => fun
  | [d1, d2, d3] => { results := [.lit (.bool false)], args := [d1, d2, d3] }
  | _ => none }
def VerifyGreaterWrongFalsely : Prop := verifyGreaterRow.holds Try.pinned (OpenSpec.ofChange verifyGreaterWrong)

/-- 'framewiselaw53.VerifySound': WHATEVER THE INPUT: true; the input reads as it did. -/
def verifySoundSpec : ChangeSpec := { name := "verifySound", fn := fun _ => fun
  | [d1, d2] => { results := [.lit (.bool true)], args := [d1, d2] }
  | _ => none }
def verifySoundRow : OpenClaim := { program := "ytnlimcijgpaegaa", sum := "1c1e20cdf7409783a1c77342d41ef2727490f8cb5144b3a16b4d646fe8678ea8", func := "framewise/framewiselaw53.VerifySound", spec := "verifySound", unfollowed := true, recurses := true, apart := false }
def VerifySoundSaid : Prop := verifySoundRow.holds Try.pinned (OpenSpec.ofChange verifySoundSpec)

/-- ITS FALSE NEIGHBOUR: 'it returns false'. Refute it at one input. -/
def verifySoundWrong : ChangeSpec := { name := "verifySound", fn := fun _ => fun
  | [d1, d2] => { results := [.lit (.bool false)], args := [d1, d2] }
  | _ => none }
def VerifySoundWrongFalsely : Prop := verifySoundRow.holds Try.pinned (OpenSpec.ofChange verifySoundWrong)

/-- 'framewiselaw53.VerifyArena': WHATEVER THE INPUT: true; the input reads as it did. -/
def verifyArenaSpec : ChangeSpec := { name := "verifyArena", fn := fun _ => fun
  | [d1, d2] => { results := [.lit (.bool true)], args := [d1, d2] }
  | _ => none }
def verifyArenaRow : OpenClaim := { program := "ytnlimcijgpaegaa", sum := "1c1e20cdf7409783a1c77342d41ef2727490f8cb5144b3a16b4d646fe8678ea8", func := "framewise/framewiselaw53.VerifyArena", spec := "verifyArena", unfollowed := true, recurses := true, apart := false }
def VerifyArenaSaid : Prop := verifyArenaRow.holds Try.pinned (OpenSpec.ofChange verifyArenaSpec)

/-- ITS FALSE NEIGHBOUR: 'it returns false'. Refute it at one input. -/
def verifyArenaWrong : ChangeSpec := { name := "verifyArena", fn := fun _ => fun
  | [d1, d2] => { results := [.lit (.bool false)], args := [d1, d2] }
  | _ => none }
def VerifyArenaWrongFalsely : Prop := verifyArenaRow.holds Try.pinned (OpenSpec.ofChange verifyArenaWrong)

/-- 'framewiselaw55.MachineParts': WHATEVER THE INPUT: true; the input reads as it did. -/
def machinePartsSpec : ChangeSpec := { name := "machineParts", fn := fun _ => fun
  | [d1, d2, d3] => { results := [.lit (.bool true)], args := [d1, d2, d3] }
  | _ => none }
def machinePartsRow : OpenClaim := { program := "ytnlimcijgpaegaa", sum := "1c1e20cdf7409783a1c77342d41ef2727490f8cb5144b3a16b4d646fe8678ea8", func := "framewise/framewiselaw55.MachineParts", spec := "machineParts", unfollowed := true, recurses := true, apart := false }
def MachinePartsSaid : Prop := machinePartsRow.holds Try.pinned (OpenSpec.ofChange machinePartsSpec)

/-- ITS FALSE NEIGHBOUR: 'it returns false'. Refute it at one input. -/
def machinePartsWrong : ChangeSpec := { name := "machineParts", fn := fun _ => fun
  | [d1, d2, d3] => { results := [.lit (.bool false)], args := [d1, d2, d3] }
  | _ => none }
def MachinePartsWrongFalsely : Prop := machinePartsRow.holds Try.pinned (OpenSpec.ofChange machinePartsWrong)

/-- 'framewiselaw55.MachineArena': WHATEVER THE INPUT: true; the input reads as it did. -/
def machineArenaSpec : ChangeSpec := { name := "machineArena", fn := fun _ => fun
  | [d1, d2, d3] => { results := [.lit (.bool true)], args := [d1, d2, d3] }
  | _ => none }
def machineArenaRow : OpenClaim := { program := "ytnlimcijgpaegaa", sum := "1c1e20cdf7409783a1c77342d41ef2727490f8cb5144b3a16b4d646fe8678ea8", func := "framewise/framewiselaw55.MachineArena", spec := "machineArena", unfollowed := true, recurses := true, apart := false }
def MachineArenaSaid : Prop := machineArenaRow.holds Try.pinned (OpenSpec.ofChange machineArenaSpec)

/-- ITS FALSE NEIGHBOUR: 'it returns false'. Refute it at one input. -/
def machineArenaWrong : ChangeSpec := { name := "machineArena", fn := fun _ => fun
  | [d1, d2, d3] => { results := [.lit (.bool false)], args := [d1, d2, d3] }
  | _ => none }
def MachineArenaWrongFalsely : Prop := machineArenaRow.holds Try.pinned (OpenSpec.ofChange machineArenaWrong)

/- THE SECOND FORM. 'bulk': how many values and letters a reading holds, each counted each time it is reached (what is shared counts as often as it is met; a slice's spare places count too). A statement '..UptoSaid' is the law's where the arguments, and the package variables that the reading takes, are together of bulk at most 1048576: NARROWER than '..Said'. Prove '..Said' where nothing that the law and all that it calls make is longer than what came in: it says more and counts as full. Else prove '..UptoSaid'. A law counts once. -/
mutual
def uptoBulk {H : Type} : DataW H → Nat
  | .lit (.string bytes) => bytes.length + 1
  | .lit _ => 1
  | .nil => 1
  | .ptr d => uptoBulk d + 1
  | .slice elems spare => uptoBulkAll elems + uptoBulkAll spare + 1
  | .agg parts => uptoBulkAll parts + 1
  | .iface _ d => uptoBulk d + 1
  | .map entries => uptoBulkEntries entries + 1
  | .held _ => 1
def uptoBulkAll {H : Type} : List (DataW H) → Nat
  | [] => 0
  | d :: r => uptoBulk d + uptoBulkAll r
def uptoBulkEntries {H : Type} : List (Lit × DataW H) → Nat
  | [] => 0
  | x :: r => uptoBulkEntry x + uptoBulkEntries r
def uptoBulkEntry {H : Type} : Lit × DataW H → Nat
  | (.string bytes, d) => bytes.length + uptoBulk d + 1
  | (_, d) => uptoBulk d + 1
 end
def uptoSmall : (H : Type) → List (DataW H) → Bool := fun _ ds => decide (uptoBulkAll ds ≤ 1048576)
def OpenSpec.upto (s : _root_.Go.ChangeSpec) : _root_.Go.OpenSpec := { _root_.Go.OpenSpec.ofChange s with cond := some uptoSmall }

/-- 'framewiselaw53.VerifyPrim', WHERE WHAT IT READS IS OF BULK AT MOST 1048576: true; the input reads as it did. -/
def verifyPrimUptoRow : OpenClaim := { program := "ytnlimcijgpaegaa", sum := "1c1e20cdf7409783a1c77342d41ef2727490f8cb5144b3a16b4d646fe8678ea8", func := "framewise/framewiselaw53.VerifyPrim", spec := "verifyPrim", unfollowed := true, recurses := true, apart := false, narrowed := true }
def VerifyPrimUptoSaid : Prop := verifyPrimUptoRow.holds Try.pinned (OpenSpec.upto verifyPrimSpec)

/-- 'framewiselaw53.VerifyGreater', WHERE WHAT IT READS IS OF BULK AT MOST 1048576: true; the input reads as it did. -/
def verifyGreaterUptoRow : OpenClaim := { program := "ytnlimcijgpaegaa", sum := "1c1e20cdf7409783a1c77342d41ef2727490f8cb5144b3a16b4d646fe8678ea8", func := "framewise/framewiselaw53.VerifyGreater", spec := "verifyGreater", unfollowed := true, recurses := true, apart := false, narrowed := true }
def VerifyGreaterUptoSaid : Prop := verifyGreaterUptoRow.holds Try.pinned (OpenSpec.upto verifyGreaterSpec)

/-- 'framewiselaw53.VerifySound', WHERE WHAT IT READS IS OF BULK AT MOST 1048576: true; the input reads as it did. -/
def verifySoundUptoRow : OpenClaim := { program := "ytnlimcijgpaegaa", sum := "1c1e20cdf7409783a1c77342d41ef2727490f8cb5144b3a16b4d646fe8678ea8", func := "framewise/framewiselaw53.VerifySound", spec := "verifySound", unfollowed := true, recurses := true, apart := false, narrowed := true }
def VerifySoundUptoSaid : Prop := verifySoundUptoRow.holds Try.pinned (OpenSpec.upto verifySoundSpec)

/-- 'framewiselaw53.VerifyArena', WHERE WHAT IT READS IS OF BULK AT MOST 1048576: true; the input reads as it did. -/
def verifyArenaUptoRow : OpenClaim := { program := "ytnlimcijgpaegaa", sum := "1c1e20cdf7409783a1c77342d41ef2727490f8cb5144b3a16b4d646fe8678ea8", func := "framewise/framewiselaw53.VerifyArena", spec := "verifyArena", unfollowed := true, recurses := true, apart := false, narrowed := true }
def VerifyArenaUptoSaid : Prop := verifyArenaUptoRow.holds Try.pinned (OpenSpec.upto verifyArenaSpec)

/-- 'framewiselaw55.MachineParts', WHERE WHAT IT READS IS OF BULK AT MOST 1048576: true; the input reads as it did. -/
def machinePartsUptoRow : OpenClaim := { program := "ytnlimcijgpaegaa", sum := "1c1e20cdf7409783a1c77342d41ef2727490f8cb5144b3a16b4d646fe8678ea8", func := "framewise/framewiselaw55.MachineParts", spec := "machineParts", unfollowed := true, recurses := true, apart := false, narrowed := true }
def MachinePartsUptoSaid : Prop := machinePartsUptoRow.holds Try.pinned (OpenSpec.upto machinePartsSpec)

/-- 'framewiselaw55.MachineArena', WHERE WHAT IT READS IS OF BULK AT MOST 1048576: true; the input reads as it did. -/
def machineArenaUptoRow : OpenClaim := { program := "ytnlimcijgpaegaa", sum := "1c1e20cdf7409783a1c77342d41ef2727490f8cb5144b3a16b4d646fe8678ea8", func := "framewise/framewiselaw55.MachineArena", spec := "machineArena", unfollowed := true, recurses := true, apart := false, narrowed := true }
def MachineArenaUptoSaid : Prop := machineArenaUptoRow.holds Try.pinned (OpenSpec.upto machineArenaSpec)

end Rows
end Go.Proofs.Ytnlimcijgpaegaa
