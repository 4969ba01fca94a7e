/- StructureRenames returns true for any input. -/
import Derived.Test.YtjlcbojpiieafaaTG

set_option linter.all false

namespace Go.Proofs.Ytjlcbojpiieafaa.structureRenames
open Go.ChangeShapes Go.WideShapes Go.ChangeAt Go.RowKit Go.Fw

theorem own : ownKnob Try.prog.godebug = none := by kernel_rfl
set_option maxRecDepth 100000 in
theorem lifted (os : Os) (started : os.Started) (H : Type) (enc : TypeId × Value → H) :
    ReturnsInHanded {} Try.checked os 13 .any (Rows.structureRenamesSpec.pre6 enc Try.prog Try.f13 Rows.structureRenamesRow.domain false) (Rows.structureRenamesSpec.post enc Try.prog Try.f13 false true false false) := by
  refine returnsInHanded_of_change (C := Try.checked) own started (by kernel_rfl) Try.func13
    (ChangeSpec.witness6 (enc := enc) (C := Try.checked) false ⟨#[], #[.string ByteArray.empty, .agg #[.slice none 0 0, .int .i64 0], .slice none 0 0], []⟩ 8 (by kernel_rfl) (by kernel_rfl) (by kernel_rfl) (by kernel_rfl)) ?_
  intro W base args ds gs before hval hW hcnd _
  exact law_body (m := 9) ren_law (by kernel_rfl) (by kernel_rfl) rfl (by kernel_rfl) (fun ds h => by match ds, h with | [_, _, _], _ => rfl) rfl (by kernel_rfl) hval hW

theorem over : Rows.structureRenamesRow.holds Try.pinned (OpenSpec.ofChange Rows.structureRenamesSpec) :=
  OpenClaim.holds_of_wide 13 Try.f13 rfl rfl rfl rfl rfl rfl rfl ⟨rfl, rfl, rfl, rfl, rfl⟩ rfl rfl rfl rfl rfl (by kernel_rfl) Try.func13 (by kernel_rfl)
    (of_decide_eq_true (by kernel_rfl)) (by unfold Func.isWrapper; first | (rw [if_pos (by decide +kernel)]; kernel_rfl) | (rw [if_neg (by decide +kernel)]; exact ⟨rfl, rfl⟩))
    (fun os started H enc _ => lifted os started H enc)

theorem proved : Rows.StructureRenamesSaid :=
  over
#print axioms proved
end Go.Proofs.Ytjlcbojpiieafaa.structureRenames
