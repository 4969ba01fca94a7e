/- BytecodeCode returns true for any program and any bytes; the listed variables of the library hold what the program's text lays. -/
import Derived.Test.YtohiagaclfaolaaGreatDoorSD
import Derived.Test.YtohiagaclfaolaaGreatDoorCards
import Derived.Test.YtohiagaclfaolaaGreatDoorTie
import Derived.LaidMore
import Derived.Lay
import Derived.ProofKit
import Derived.OpenShut
import Derived.Stop.Joined
import Derived.SevenTiedAt

set_option linter.all false

namespace Go.Proofs.YtohiagaclfaolaaGreatDoor.Tx
open Go.Proofs.YtohiagaclfaolaaGreatDoor
open Go Go.Fw Bm
set_option maxRecDepth 20000
theorem law3_law:∀ xs,ShL Tryz.prog Tryz.f3.params.toList xs→PC Tryz.prog 3 xs (.lit (.bool true))
  |[x,y],h=>by
   obtain ⟨B,rfl,hB⟩:=shv_bc h.1
   obtain ⟨l,rfl,hl,hb⟩:=shv_ints u27 u5 sz5 h.2.1
   exact Cd.law3_pc hB (fun n hn=>wf_u8 (hb n hn)) hl
  |[],h=>h.elim
  |[_],h=>h.2.elim
  |_::_::_::_,h=>h.2.2.elim
end Go.Proofs.YtohiagaclfaolaaGreatDoor.Tx
namespace Go.Proofs.YtohiagaclfaolaaGreatDoor.bytecodeCode
open Go Go.ChangeShapes Go.WideShapes Go.ChangeAt Go.WideMaps Go.WideElems Go.RowKit Go.Fw
theorem own:ownKnob Tryz.prog.godebug=none:=by kernel_rfl
set_option maxRecDepth 100000 in
theorem lifted (os:Os) (started:os.Started) (H:Type) (enc:TypeId×Value→H):
    ReturnsInHanded {} Tryz.checked os 3 .any (fun w args=>(Rows.bytecodeCodeSpec.pre enc Tryz.prog Tryz.f3 [] false w args∧laidMetH Tryz.prog Rows.bytecodeCodeRow.laid w)∧sizedMet enc Tryz.prog Tryz.f3 (OpenSpec.ofChange Rows.bytecodeCodeSpec) false w args)
      (Rows.bytecodeCodeSpec.post enc Tryz.prog Tryz.f3 false true false false):=by
  refine returnsInHanded_of_change_and (C:=Tryz.checked) (X:=fun w _=>laidMetH Tryz.prog Rows.bytecodeCodeRow.laid w) (fun _ _ _ hh h=>h.of_heap hh) own started (by kernel_rfl) Tryz.func3
    (ChangeSpec.witness_shaped (enc:=enc) (C:=Tryz.checked) (os:=os) (X:=fun w _=>laidMetH Tryz.prog Rows.bytecodeCodeRow.laid w) false (World.laidAll Tryz.prog os Rows.bytecodeCodeRow.laid) #[.agg #[.int .i64 0,.int .i64 0,.slice none 0 0,.slice none 0 0,.slice none 0 0,.slice none 0 0],.slice none 0 0] 8 (World.laidAll_os _ _ _)
      (World.shaped_of_ZipB (by kernel_rfl) (by kernel_rfl)) (by kernel_rfl) (by kernel_rfl) (by kernel_rfl)
      (by rw [MakeChecks.laidMetH_plain _ _ _ (by kernel_rfl)];exact laidMet_laidAll _ (by kernel_rfl) (by kernel_rfl))) ?_
  intro W base args ds gs before hval hW _ _ hL _
  exact law_body (m:=9) Tx.law3_law (by kernel_rfl) (by kernel_rfl) rfl (by kernel_rfl) (fun ds h=>by match ds,h with|[_,_],_=>rfl) rfl (by kernel_rfl) hval hW (Tx.tabs_of (by rw [MakeChecks.laidMetH_plain _ _ _ (by kernel_rfl)] at hL;exact hL))
theorem over:Rows.BytecodeCodeSaid:=
  OpenClaim.holds_of_wide 3 Tryz.f3 rfl rfl rfl rfl rfl rfl rfl ⟨rfl,rfl,rfl,rfl,rfl⟩ rfl rfl rfl rfl rfl (by kernel_rfl) Tryz.func3 (by kernel_rfl)
    (of_decide_eq_true (by kernel_rfl)) (by unfold Func.isWrapper;first|(rw [if_pos (by decide+kernel)];kernel_rfl)|(rw [if_neg (by decide+kernel)];exact ⟨rfl,rfl⟩))
    (fun os started H enc _=>lifted os started H enc)
theorem proved:Rows.BytecodeCodeCardSaid:=
  Claim7.holds_tied_plain_at .later [] [.data,.data,.data,.data,.sentinel,.sentinel,.pinned] true (true, "35c3b9e5398375e5bd8d288f0a2458647b8b2da43b30418c4b9b6ffcefac7be4") true
    over (fun _ h=>by cases h) (by kernel_rfl) (fun _ h=>by cases h) bytecodeCode_row_tie rfl ⟨rfl,rfl⟩ (by kernel_rfl) rfl
    (fun f fn hf hfn=>by
      obtain rfl:f=3:=Option.some.inj ((show Tryz.prog.funcNamed "framewise/framewiselaw52.BytecodeCode"=some 3 by kernel_rfl).symm.trans hf)|>.symm
      obtain rfl:fn=Tryz.f3:=(Option.some.inj (Tryz.func3.symm.trans hfn)).symm
      exact ⟨by kernel_rfl,fun j t ht=>by
        have hm:t∈Tryz.f3.params.toList:=by simpa using Array.mem_of_getElem? ht
        have hall:(Tryz.f3.params.toList.all fun u=> !Tryz.prog.wantsStandIn u)=true:=by kernel_rfl
        exact (show Tryz.prog.wantsStandIn t=false by simpa using List.all_eq_true.1 hall t hm)⟩)
    (by kernel_rfl)
#print axioms proved
end Go.Proofs.YtohiagaclfaolaaGreatDoor.bytecodeCode
