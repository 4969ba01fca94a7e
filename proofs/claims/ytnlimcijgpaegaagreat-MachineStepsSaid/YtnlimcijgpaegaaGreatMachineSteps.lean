/- MachineSteps returns true for any program and any inputs. -/
import Derived.Test.YtnlimcijgpaegaaGreatSD

set_option linter.all false

namespace Go.Proofs.YtnlimcijgpaegaaGreat.machineSteps
open Go.ChangeShapes Go.WideShapes Go.ChangeAt Go.RowKit Go.Fw
theorem own:ownKnob Tryz.prog.godebug=none:=by kernel_rfl
set_option maxRecDepth 100000 in
theorem lifted (os:Os) (started:os.Started) (H:Type) (enc:TypeId×Value→H):
    ReturnsInHanded {} Tryz.checked os 5 .any (Rows.machineStepsSpec.pre6 enc Tryz.prog Tryz.f5 Rows.machineStepsRow.domain false) (Rows.machineStepsSpec.post enc Tryz.prog Tryz.f5 false true false false):=by
  refine returnsInHanded_of_change (C:=Tryz.checked) own started (by kernel_rfl) Tryz.func5
    (ChangeSpec.witness6 (enc:=enc) (C:=Tryz.checked) false ⟨#[],#[.agg #[.int .i64 0,.int .i64 0,.slice none 0 0,.slice none 0 0,.slice none 0 0,.slice none 0 0],.slice none 0 0],[]⟩ 8 (by kernel_rfl) (by kernel_rfl) (by kernel_rfl) (by kernel_rfl)) ?_
  intro W base args ds gs before hval hW hcnd _
  exact law_body (m:=9) Mz.steps_law (by kernel_rfl) (by kernel_rfl) rfl (by kernel_rfl) (fun ds h=>by match ds,h with|[_,_],_=>rfl) rfl (by kernel_rfl) hval hW
theorem over:Rows.machineStepsRow.holds Tryz.pinned (OpenSpec.ofChange Rows.machineStepsSpec):=
  OpenClaim.holds_of_wide 5 Tryz.f5 rfl rfl rfl rfl rfl rfl rfl ⟨rfl,rfl,rfl,rfl,rfl⟩ rfl rfl rfl rfl rfl (by kernel_rfl) Tryz.func5 (by kernel_rfl)
    (of_decide_eq_true (by kernel_rfl)) (by unfold Func.isWrapper;first|(rw [if_pos (by decide+kernel)];kernel_rfl)|(rw [if_neg (by decide+kernel)];exact ⟨rfl,rfl⟩))
    (fun os started H enc _=>lifted os started H enc)
theorem proved:Rows.MachineStepsSaid:=
  over
#print axioms proved
end Go.Proofs.YtnlimcijgpaegaaGreat.machineSteps
