/- VerifySound returns true for any program and any list of numbers. -/
import Derived.Test.YtnlimcijgpaegaaSD

set_option linter.all false

namespace Go.Proofs.Ytnlimcijgpaegaa.verifySound
open Go.ChangeShapes Go.WideShapes Go.ChangeAt Go.RowKit Go.Fw
theorem own:ownKnob Try.prog.godebug=none:=by kernel_rfl
set_option maxRecDepth 100000 in
theorem lifted (os:Os) (started:os.Started) (H:Type) (enc:TypeId×Value→H):
    ReturnsInHanded {} Try.checked os 5 .any (Rows.verifySoundSpec.pre6 enc Try.prog Try.f5 Rows.verifySoundRow.domain false) (Rows.verifySoundSpec.post enc Try.prog Try.f5 false true false false):=by
  refine returnsInHanded_of_change (C:=Try.checked) own started (by kernel_rfl) Try.func5
    (ChangeSpec.witness6 (enc:=enc) (C:=Try.checked) false ⟨#[],#[.agg #[.int .i64 0,.int .i64 0,.slice none 0 0,.slice none 0 0,.slice none 0 0,.slice none 0 0],.slice none 0 0],[]⟩ 8 (by kernel_rfl) (by kernel_rfl) (by kernel_rfl) (by kernel_rfl)) ?_
  intro W base args ds gs before hval hW hcnd _
  exact law_body (m:=9) Mx.sound_law (by kernel_rfl) (by kernel_rfl) rfl (by kernel_rfl) (fun ds h=>by match ds,h with|[_,_],_=>rfl) rfl (by kernel_rfl) hval hW
theorem over:Rows.verifySoundRow.holds Try.pinned (OpenSpec.ofChange Rows.verifySoundSpec):=
  OpenClaim.holds_of_wide 5 Try.f5 rfl rfl rfl rfl rfl rfl rfl ⟨rfl,rfl,rfl,rfl,rfl⟩ rfl rfl rfl rfl rfl (by kernel_rfl) Try.func5 (by kernel_rfl)
    (of_decide_eq_true (by kernel_rfl)) (by unfold Func.isWrapper;first|(rw [if_pos (by decide+kernel)];kernel_rfl)|(rw [if_neg (by decide+kernel)];exact ⟨rfl,rfl⟩))
    (fun os started H enc _=>lifted os started H enc)
theorem proved:Rows.VerifySoundSaid:=
  over
#print axioms proved
end Go.Proofs.Ytnlimcijgpaegaa.verifySound
