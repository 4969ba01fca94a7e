/- BytecodeOps returns true for any instruction and any two numbers; the listed variables of the library hold what the program's text lays. -/
import Derived.Test.YtohiagaclfaolaaDoorSD
import Derived.Test.YtohiagaclfaolaaDoorCards
import Derived.Test.YtohiagaclfaolaaDoorTie
import Derived.LaidMore
import Derived.Lay
import Derived.ProofKit
import Derived.OpenShut
import Derived.Stop.Joined
import Derived.SevenTiedAt

set_option linter.all false

namespace Go.Proofs.YtohiagaclfaolaaDoor.Tx
open Go.Proofs.YtohiagaclfaolaaDoor
open Go Go.Fw Bm
set_option maxRecDepth 20000
theorem law5_law : ∀ xs, ShL Tryd.prog Tryd.f5.params.toList xs → PC Tryd.prog 5 xs (.lit (.bool true))
  | [x, y, z], h => by
    obtain ⟨o, rfl, ho⟩ := shv_op h.1
    obtain ⟨r, rfl, _⟩ := shv_int u3 h.2.1
    obtain ⟨m, rfl, _⟩ := shv_int u3 h.2.2.1
    exact law5_pc ho
  | [], h => h.elim
  | [_], h => h.2.elim
  | [_, _], h => h.2.2.elim
  | _ :: _ :: _ :: _ :: _, h => h.2.2.2.elim
end Go.Proofs.YtohiagaclfaolaaDoor.Tx
namespace Go.Proofs.YtohiagaclfaolaaDoor.bytecodeOps
open Go Go.ChangeShapes Go.WideShapes Go.ChangeAt Go.WideMaps Go.WideElems Go.RowKit Go.Fw

theorem own : ownKnob Tryd.prog.godebug = none := by kernel_rfl
set_option maxRecDepth 100000 in
theorem lifted (os : Os) (started : os.Started) (H : Type) (enc : TypeId × Value → H) :
    ReturnsInHanded {} Tryd.checked os 5 .any (fun w args => (Rows.bytecodeOpsSpec.pre enc Tryd.prog Tryd.f5 [] false w args ∧ laidMetH Tryd.prog Rows.bytecodeOpsRow.laid w) ∧ sizedMet enc Tryd.prog Tryd.f5 (OpenSpec.ofChange Rows.bytecodeOpsSpec) false w args)
      (Rows.bytecodeOpsSpec.post enc Tryd.prog Tryd.f5 false true false false) := by
  refine returnsInHanded_of_change_and (C := Tryd.checked) (X := fun w _ => laidMetH Tryd.prog Rows.bytecodeOpsRow.laid w) (fun _ _ _ hh h => h.of_heap hh) own started (by kernel_rfl) Tryd.func5
    (ChangeSpec.witness_shaped (enc := enc) (C := Tryd.checked) (os := os) (X := fun w _ => laidMetH Tryd.prog Rows.bytecodeOpsRow.laid w) false (World.laidAll Tryd.prog os Rows.bytecodeOpsRow.laid) #[.agg #[.int .i64 0, .string ByteArray.empty, .int .i64 0, .int .i64 0, .int .i64 0, .int .i64 0], .int .i64 0, .int .i64 0] 8 (World.laidAll_os _ _ _)
      (World.shaped_of_ZipB (by kernel_rfl) (by kernel_rfl)) (by kernel_rfl) (by kernel_rfl) (by kernel_rfl)
      (by rw [MakeChecks.laidMetH_plain _ _ _ (by kernel_rfl)]; exact laidMet_laidAll _ (by kernel_rfl) (by kernel_rfl))) ?_
  intro W base args ds gs before hval hW _ _ hL _
  exact law_body (m := 9) Tx.law5_law (by kernel_rfl) (by kernel_rfl) rfl (by kernel_rfl) (fun ds h => by match ds, h with | [_, _, _], _ => rfl) rfl (by kernel_rfl) hval hW tb_nil

theorem over : Rows.BytecodeOpsSaid :=
  OpenClaim.holds_of_wide 5 Tryd.f5 rfl rfl rfl rfl rfl rfl rfl ⟨rfl, rfl, rfl, rfl, rfl⟩ rfl rfl rfl rfl rfl (by kernel_rfl) Tryd.func5 (by kernel_rfl)
    (of_decide_eq_true (by kernel_rfl)) (by unfold Func.isWrapper; first | (rw [if_pos (by decide +kernel)]; kernel_rfl) | (rw [if_neg (by decide +kernel)]; exact ⟨rfl, rfl⟩))
    (fun os started H enc _ => lifted os started H enc)

theorem proved : Rows.BytecodeOpsCardSaid :=
  Claim7.holds_tied_plain_at .later [] [.data, .data, .data, .data, .sentinel, .sentinel, .pinned] true (true, "b42c4c682b5b854a091005181f37c1785179fc5e884a215c21bec132ee072ac1") true
    over (fun _ h => by cases h) (by kernel_rfl) (fun _ h => by cases h) bytecodeOps_row_tie rfl ⟨rfl, rfl⟩ (by kernel_rfl) rfl
    (fun f fn hf hfn => by
      obtain rfl : f = 5 := Option.some.inj ((show Tryd.prog.funcNamed "framewise/framewiselaw52.BytecodeOps" = some 5 by kernel_rfl).symm.trans hf) |>.symm
      obtain rfl : fn = Tryd.f5 := (Option.some.inj (Tryd.func5.symm.trans hfn)).symm
      exact ⟨by kernel_rfl, fun j t ht => by
        have hm : t ∈ Tryd.f5.params.toList := by simpa using Array.mem_of_getElem? ht
        have hall : (Tryd.f5.params.toList.all fun u => !Tryd.prog.wantsStandIn u) = true := by kernel_rfl
        exact (show Tryd.prog.wantsStandIn t = false by simpa using List.all_eq_true.1 hall t hm)⟩)
    (by kernel_rfl)
#print axioms proved
end Go.Proofs.YtohiagaclfaolaaDoor.bytecodeOps
