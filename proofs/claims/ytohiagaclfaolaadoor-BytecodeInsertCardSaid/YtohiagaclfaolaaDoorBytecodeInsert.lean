/- BytecodeInsert returns true for any two rows of instructions and any place; the listed variables of the library hold what the program's text lays. -/
import Derived.Test.YtohiagaclfaolaaDoorSD
import Derived.Test.YtohiagaclfaolaaDoorCards
import Derived.Test.YtohiagaclfaolaaDoorTie
import Derived.LaidMore
import Derived.Lay
import Derived.ProofKit
import Derived.OpenShut
import Derived.Stop.Joined
import Derived.SevenTiedAt

set_option linter.all false

namespace Go.Proofs.YtohiagaclfaolaaDoor.Tx
open Go.Proofs.YtohiagaclfaolaaDoor
open Go Go.Fw Bm
set_option maxRecDepth 20000
theorem law4_law : ∀ xs, ShL Tryd.prog Tryd.f4.params.toList xs → PC Tryd.prog 4 xs (.lit (.bool true))
  | [x, y, z], h => by
    obtain ⟨c, hs, rfl⟩ := h.1
    obtain ⟨ys, rfl, hl, hy⟩ := sh_slice u22 hs
    obtain ⟨l, rfl, hp⟩ := list_ops fun y h => shv_op (hy y h)
    obtain ⟨c, hs, rfl⟩ := h.2.1
    obtain ⟨zs, rfl, hl2, hz⟩ := sh_slice u22 hs
    obtain ⟨l2, rfl, hp2⟩ := list_ops fun y h => shv_op (hz y h)
    obtain ⟨n, rfl, hn⟩ := shv_int u5 h.2.2.1
    have hn := wf_u8 hn
    rw [sz32]
    exact law4_pc ⟨by simpa [opsV] using hl, hp⟩ ⟨by simpa [opsV] using hl2, hp2⟩ ⟨hn.1, by omega⟩
  | [], h => h.elim
  | [_], h => h.2.elim
  | [_, _], h => h.2.2.elim
  | _ :: _ :: _ :: _ :: _, h => h.2.2.2.elim
end Go.Proofs.YtohiagaclfaolaaDoor.Tx
namespace Go.Proofs.YtohiagaclfaolaaDoor.bytecodeInsert
open Go Go.ChangeShapes Go.WideShapes Go.ChangeAt Go.WideMaps Go.WideElems Go.RowKit Go.Fw

theorem own : ownKnob Tryd.prog.godebug = none := by kernel_rfl
set_option maxRecDepth 100000 in
theorem lifted (os : Os) (started : os.Started) (H : Type) (enc : TypeId × Value → H) :
    ReturnsInHanded {} Tryd.checked os 4 .any (fun w args => (Rows.bytecodeInsertSpec.pre enc Tryd.prog Tryd.f4 [] false w args ∧ laidMetH Tryd.prog Rows.bytecodeInsertRow.laid w) ∧ sizedMet enc Tryd.prog Tryd.f4 (OpenSpec.ofChange Rows.bytecodeInsertSpec) false w args)
      (Rows.bytecodeInsertSpec.post enc Tryd.prog Tryd.f4 false true false false) := by
  refine returnsInHanded_of_change_and (C := Tryd.checked) (X := fun w _ => laidMetH Tryd.prog Rows.bytecodeInsertRow.laid w) (fun _ _ _ hh h => h.of_heap hh) own started (by kernel_rfl) Tryd.func4
    (ChangeSpec.witness_shaped (enc := enc) (C := Tryd.checked) (os := os) (X := fun w _ => laidMetH Tryd.prog Rows.bytecodeInsertRow.laid w) false (World.laidAll Tryd.prog os Rows.bytecodeInsertRow.laid) #[.slice none 0 0, .slice none 0 0, .int .u8 0] 8 (World.laidAll_os _ _ _)
      (World.shaped_of_ZipB (by kernel_rfl) (by kernel_rfl)) (by kernel_rfl) (by kernel_rfl) (by kernel_rfl)
      (by rw [MakeChecks.laidMetH_plain _ _ _ (by kernel_rfl)]; exact laidMet_laidAll _ (by kernel_rfl) (by kernel_rfl))) ?_
  intro W base args ds gs before hval hW _ _ hL _
  exact law_body (m := 9) Tx.law4_law (by kernel_rfl) (by kernel_rfl) rfl (by kernel_rfl) (fun ds h => by match ds, h with | [_, _, _], _ => rfl) rfl (by kernel_rfl) hval hW tb_nil

theorem over : Rows.BytecodeInsertSaid :=
  OpenClaim.holds_of_wide 4 Tryd.f4 rfl rfl rfl rfl rfl rfl rfl ⟨rfl, rfl, rfl, rfl, rfl⟩ rfl rfl rfl rfl rfl (by kernel_rfl) Tryd.func4 (by kernel_rfl)
    (of_decide_eq_true (by kernel_rfl)) (by unfold Func.isWrapper; first | (rw [if_pos (by decide +kernel)]; kernel_rfl) | (rw [if_neg (by decide +kernel)]; exact ⟨rfl, rfl⟩))
    (fun os started H enc _ => lifted os started H enc)

theorem proved : Rows.BytecodeInsertCardSaid :=
  Claim7.holds_tied_plain_at .later [] [.data, .data, .data, .data, .sentinel, .sentinel, .pinned] true (true, "b42c4c682b5b854a091005181f37c1785179fc5e884a215c21bec132ee072ac1") true
    over (fun _ h => by cases h) (by kernel_rfl) (fun _ h => by cases h) bytecodeInsert_row_tie rfl ⟨rfl, rfl⟩ (by kernel_rfl) rfl
    (fun f fn hf hfn => by
      obtain rfl : f = 4 := Option.some.inj ((show Tryd.prog.funcNamed "framewise/framewiselaw52.BytecodeInsert" = some 4 by kernel_rfl).symm.trans hf) |>.symm
      obtain rfl : fn = Tryd.f4 := (Option.some.inj (Tryd.func4.symm.trans hfn)).symm
      exact ⟨by kernel_rfl, fun j t ht => by
        have hm : t ∈ Tryd.f4.params.toList := by simpa using Array.mem_of_getElem? ht
        have hall : (Tryd.f4.params.toList.all fun u => !Tryd.prog.wantsStandIn u) = true := by kernel_rfl
        exact (show Tryd.prog.wantsStandIn t = false by simpa using List.all_eq_true.1 hall t hm)⟩)
    (by kernel_rfl)
#print axioms proved
end Go.Proofs.YtohiagaclfaolaaDoor.bytecodeInsert
