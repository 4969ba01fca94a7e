/-
  No cell of these rows narrows 'for every input' (looked for: loops, veiled, ifaces, maps, wideKeys, modest, calm, conditions, laid).
  DERIVED. THE GIVEN ROWS OF THIS SEAT. 6 by the template 'for every input the law returns true; each argument reads behind the call as it read before'; 0 by the template 'total and deterministic' (their statements: YtcpjahmajkhchaaGreatTotals.lean).
  GIVEN WITH THE SEED: the statements are not yours to turn. If you find one false, say at which input.
  Laid BY PROGRAM, IN A SANDBOX (cutbox-rows.mjs): the forced cells as the released guide's own fill.sh prints them over the translation 586ef55c83b8f644… (all of the seat's roots in one cut). By AI agents, Wed Nov 11 2026. No macro, syntax, notation, axiom, sorry.
-/
import Derived.Test.YtcpjahmajkhchaaGreatChecked
import GoSem.Claim
import GoSem.ClaimJoined
import GoSem.ClaimMapViews
import Derived.JoinedTies
import Derived.KernelRfl
namespace Go.Proofs.YtcpjahmajkhchaaGreat
/- THE CELL 'sum', in the pinned program and in every row, IS THE sha256 OF THE DUMP (.gsa) THAT YtcpjahmajkhchaaGreatProg.lean LOADS. Nothing in Lean hashes anything: it is a label: what it is worth is what the hold of that sum in a sandbox is worth. -/
noncomputable def Tryz.pinned : Pinned := { name := "ytcpjahmajkhchaagreat", sum := "586ef55c83b8f644314b756d6741deacc856b8d046a2f31858b00a8e9c7c0f67", checked := Tryz.checked }
namespace Rows
def none {H : Type} : Left H := { results := [], args := [] }

/-- 'framewiselaw22.ReduceCode': WHATEVER THE INPUT: true; the input reads as it did. -/
def reduceCodeSpec : ChangeSpec := { name := "reduceCode", fn := fun _ => fun
  | [d1, d2, d3] => { results := [.lit (.bool true)], args := [d1, d2, d3] }
  | _ => none }
def reduceCodeRow : OpenClaim := { program := "ytcpjahmajkhchaagreat", sum := "586ef55c83b8f644314b756d6741deacc856b8d046a2f31858b00a8e9c7c0f67", func := "framewise/framewiselaw22.ReduceCode", spec := "reduceCode", unfollowed := true, recurses := true, apart := false }
def ReduceCodeSaid : Prop := reduceCodeRow.holds Tryz.pinned (OpenSpec.ofChange reduceCodeSpec)

/-- ITS FALSE NEIGHBOUR: 'it returns false'. Refute it at one input. -/
def reduceCodeWrong : ChangeSpec := { name := "reduceCode", fn := fun _ => fun
  | [d1, d2, d3] => { results := [.lit (.bool false)], args := [d1, d2, d3] }
  | _ => none }
def ReduceCodeWrongFalsely : Prop := reduceCodeRow.holds Tryz.pinned (OpenSpec.ofChange reduceCodeWrong)

/-- 'framewiselaw22.ReduceFold': WHATEVER THE INPUT: true; the input reads as it did. -/
def reduceFoldSpec : ChangeSpec := { name := "reduceFold", fn := fun _ => fun
  | [d1, d2, d3] => { results := [.lit (.bool true)], args := [d1, d2, d3] }
  | _ => none }
def reduceFoldRow : OpenClaim := { program := "ytcpjahmajkhchaagreat", sum := "586ef55c83b8f644314b756d6741deacc856b8d046a2f31858b00a8e9c7c0f67", func := "framewise/framewiselaw22.ReduceFold", spec := "reduceFold", unfollowed := true, recurses := true, apart := false }
def ReduceFoldSaid : Prop := reduceFoldRow.holds Tryz.pinned (OpenSpec.ofChange reduceFoldSpec)

/-- ITS FALSE NEIGHBOUR: 'it returns false'. Refute it at one input. -/
def reduceFoldWrong : ChangeSpec := { name := "reduceFold", fn := fun _ => fun
  | [d1, d2, d3] => { results := [.lit (.bool false)], args := [d1, d2, d3] }
  | _ => none }
def ReduceFoldWrongFalsely : Prop := reduceFoldRow.holds Tryz.pinned (OpenSpec.ofChange reduceFoldWrong)

/-- 'framewiselaw22.ReduceAppend': WHATEVER THE INPUT: true; the input reads as it did. -/
def reduceAppendSpec : ChangeSpec := { name := "reduceAppend", fn := fun _ => fun
  | [d1, d2, d3] => { results := [.lit (.bool true)], args := [d1, d2, d3] }
  | _ => none }
def reduceAppendRow : OpenClaim := { program := "ytcpjahmajkhchaagreat", sum := "586ef55c83b8f644314b756d6741deacc856b8d046a2f31858b00a8e9c7c0f67", func := "framewise/framewiselaw22.ReduceAppend", spec := "reduceAppend", unfollowed := true, recurses := true, apart := false }
def ReduceAppendSaid : Prop := reduceAppendRow.holds Tryz.pinned (OpenSpec.ofChange reduceAppendSpec)

/-- ITS FALSE NEIGHBOUR: 'it returns false'. Refute it at one input. -/
def reduceAppendWrong : ChangeSpec := { name := "reduceAppend", fn := fun _ => fun
  | [d1, d2, d3] => { results := [.lit (.bool false)], args := [d1, d2, d3] }
  | _ => none }
def ReduceAppendWrongFalsely : Prop := reduceAppendRow.holds Tryz.pinned (OpenSpec.ofChange reduceAppendWrong)

/-- 'framewiselaw22.ReduceScan': WHATEVER THE INPUT: true; the input reads as it did. -/
def reduceScanSpec : ChangeSpec := { name := "reduceScan", fn := fun _ => fun
  | [d1, d2] => { results := [.lit (.bool true)], args := [d1, d2] }
  | _ => none }
def reduceScanRow : OpenClaim := { program := "ytcpjahmajkhchaagreat", sum := "586ef55c83b8f644314b756d6741deacc856b8d046a2f31858b00a8e9c7c0f67", func := "framewise/framewiselaw22.ReduceScan", spec := "reduceScan", unfollowed := true, recurses := true, apart := false }
def ReduceScanSaid : Prop := reduceScanRow.holds Tryz.pinned (OpenSpec.ofChange reduceScanSpec)

/-- ITS FALSE NEIGHBOUR: 'it returns false'. Refute it at one input. -/
def reduceScanWrong : ChangeSpec := { name := "reduceScan", fn := fun _ => fun
  | [d1, d2] => { results := [.lit (.bool false)], args := [d1, d2] }
  | _ => none }
def ReduceScanWrongFalsely : Prop := reduceScanRow.holds Tryz.pinned (OpenSpec.ofChange reduceScanWrong)

/-- 'framewiselaw22.ReduceLifts': WHATEVER THE INPUT: true; the input reads as it did. -/
def reduceLiftsSpec : ChangeSpec := { name := "reduceLifts", fn := fun _ => fun
  | [d1, d2] => { results := [.lit (.bool true)], args := [d1, d2] }
  | _ => none }
def reduceLiftsRow : OpenClaim := { program := "ytcpjahmajkhchaagreat", sum := "586ef55c83b8f644314b756d6741deacc856b8d046a2f31858b00a8e9c7c0f67", func := "framewise/framewiselaw22.ReduceLifts", spec := "reduceLifts", unfollowed := true, recurses := true, apart := false }
def ReduceLiftsSaid : Prop := reduceLiftsRow.holds Tryz.pinned (OpenSpec.ofChange reduceLiftsSpec)

/-- ITS FALSE NEIGHBOUR: 'it returns false'. Refute it at one input. -/
def reduceLiftsWrong : ChangeSpec := { name := "reduceLifts", fn := fun _ => fun
  | [d1, d2] => { results := [.lit (.bool false)], args := [d1, d2] }
  | _ => none }
def ReduceLiftsWrongFalsely : Prop := reduceLiftsRow.holds Tryz.pinned (OpenSpec.ofChange reduceLiftsWrong)

/-- 'framewiselaw22.ReduceTypes': WHATEVER THE INPUT: true; the input reads as it did. -/
def reduceTypesSpec : ChangeSpec := { name := "reduceTypes", fn := fun _ => fun
  | [d1, d2, d3] => { results := [.lit (.bool true)], args := [d1, d2, d3] }
  | _ => none }
def reduceTypesRow : OpenClaim := { program := "ytcpjahmajkhchaagreat", sum := "586ef55c83b8f644314b756d6741deacc856b8d046a2f31858b00a8e9c7c0f67", func := "framewise/framewiselaw22.ReduceTypes", spec := "reduceTypes", unfollowed := true, recurses := true, apart := false }
def ReduceTypesSaid : Prop := reduceTypesRow.holds Tryz.pinned (OpenSpec.ofChange reduceTypesSpec)

/-- ITS FALSE NEIGHBOUR: 'it returns false'. Refute it at one input. -/
def reduceTypesWrong : ChangeSpec := { name := "reduceTypes", fn := fun _ => fun
  | [d1, d2, d3] => { results := [.lit (.bool false)], args := [d1, d2, d3] }
  | _ => none }
def ReduceTypesWrongFalsely : Prop := reduceTypesRow.holds Tryz.pinned (OpenSpec.ofChange reduceTypesWrong)

/- THE SECOND FORM. 'bulk': how many values and letters a reading holds, each counted each time it is reached (what is shared counts as often as it is met; a slice's spare places count too). A statement '..UptoSaid' is the law's where the arguments, and the package variables that the reading takes, are together of bulk at most 1048576: NARROWER than '..Said'. Prove '..Said' where nothing that the law and all that it calls make is longer than what came in: it says more and counts as full. Else prove '..UptoSaid'. A law counts once. -/
mutual
def uptoBulk {H : Type} : DataW H → Nat
  | .lit (.string bytes) => bytes.length + 1
  | .lit _ => 1
  | .nil => 1
  | .ptr d => uptoBulk d + 1
  | .slice elems spare => uptoBulkAll elems + uptoBulkAll spare + 1
  | .agg parts => uptoBulkAll parts + 1
  | .iface _ d => uptoBulk d + 1
  | .map entries => uptoBulkEntries entries + 1
  | .held _ => 1
def uptoBulkAll {H : Type} : List (DataW H) → Nat
  | [] => 0
  | d :: r => uptoBulk d + uptoBulkAll r
def uptoBulkEntries {H : Type} : List (Lit × DataW H) → Nat
  | [] => 0
  | x :: r => uptoBulkEntry x + uptoBulkEntries r
def uptoBulkEntry {H : Type} : Lit × DataW H → Nat
  | (.string bytes, d) => bytes.length + uptoBulk d + 1
  | (_, d) => uptoBulk d + 1
 end
def uptoSmall : (H : Type) → List (DataW H) → Bool := fun _ ds => decide (uptoBulkAll ds ≤ 1048576)
def OpenSpec.upto (s : _root_.Go.ChangeSpec) : _root_.Go.OpenSpec := { _root_.Go.OpenSpec.ofChange s with cond := some uptoSmall }

/-- 'framewiselaw22.ReduceCode', WHERE WHAT IT READS IS OF BULK AT MOST 1048576: true; the input reads as it did. -/
def reduceCodeUptoRow : OpenClaim := { program := "ytcpjahmajkhchaagreat", sum := "586ef55c83b8f644314b756d6741deacc856b8d046a2f31858b00a8e9c7c0f67", func := "framewise/framewiselaw22.ReduceCode", spec := "reduceCode", unfollowed := true, recurses := true, apart := false, narrowed := true }
def ReduceCodeUptoSaid : Prop := reduceCodeUptoRow.holds Tryz.pinned (OpenSpec.upto reduceCodeSpec)

/-- 'framewiselaw22.ReduceFold', WHERE WHAT IT READS IS OF BULK AT MOST 1048576: true; the input reads as it did. -/
def reduceFoldUptoRow : OpenClaim := { program := "ytcpjahmajkhchaagreat", sum := "586ef55c83b8f644314b756d6741deacc856b8d046a2f31858b00a8e9c7c0f67", func := "framewise/framewiselaw22.ReduceFold", spec := "reduceFold", unfollowed := true, recurses := true, apart := false, narrowed := true }
def ReduceFoldUptoSaid : Prop := reduceFoldUptoRow.holds Tryz.pinned (OpenSpec.upto reduceFoldSpec)

/-- 'framewiselaw22.ReduceAppend', WHERE WHAT IT READS IS OF BULK AT MOST 1048576: true; the input reads as it did. -/
def reduceAppendUptoRow : OpenClaim := { program := "ytcpjahmajkhchaagreat", sum := "586ef55c83b8f644314b756d6741deacc856b8d046a2f31858b00a8e9c7c0f67", func := "framewise/framewiselaw22.ReduceAppend", spec := "reduceAppend", unfollowed := true, recurses := true, apart := false, narrowed := true }
def ReduceAppendUptoSaid : Prop := reduceAppendUptoRow.holds Tryz.pinned (OpenSpec.upto reduceAppendSpec)

/-- 'framewiselaw22.ReduceScan', WHERE WHAT IT READS IS OF BULK AT MOST 1048576: true; the input reads as it did. -/
def reduceScanUptoRow : OpenClaim := { program := "ytcpjahmajkhchaagreat", sum := "586ef55c83b8f644314b756d6741deacc856b8d046a2f31858b00a8e9c7c0f67", func := "framewise/framewiselaw22.ReduceScan", spec := "reduceScan", unfollowed := true, recurses := true, apart := false, narrowed := true }
def ReduceScanUptoSaid : Prop := reduceScanUptoRow.holds Tryz.pinned (OpenSpec.upto reduceScanSpec)

/-- 'framewiselaw22.ReduceLifts', WHERE WHAT IT READS IS OF BULK AT MOST 1048576: true; the input reads as it did. -/
def reduceLiftsUptoRow : OpenClaim := { program := "ytcpjahmajkhchaagreat", sum := "586ef55c83b8f644314b756d6741deacc856b8d046a2f31858b00a8e9c7c0f67", func := "framewise/framewiselaw22.ReduceLifts", spec := "reduceLifts", unfollowed := true, recurses := true, apart := false, narrowed := true }
def ReduceLiftsUptoSaid : Prop := reduceLiftsUptoRow.holds Tryz.pinned (OpenSpec.upto reduceLiftsSpec)

/-- 'framewiselaw22.ReduceTypes', WHERE WHAT IT READS IS OF BULK AT MOST 1048576: true; the input reads as it did. -/
def reduceTypesUptoRow : OpenClaim := { program := "ytcpjahmajkhchaagreat", sum := "586ef55c83b8f644314b756d6741deacc856b8d046a2f31858b00a8e9c7c0f67", func := "framewise/framewiselaw22.ReduceTypes", spec := "reduceTypes", unfollowed := true, recurses := true, apart := false, narrowed := true }
def ReduceTypesUptoSaid : Prop := reduceTypesUptoRow.holds Tryz.pinned (OpenSpec.upto reduceTypesSpec)

end Rows
end Go.Proofs.YtcpjahmajkhchaaGreat
