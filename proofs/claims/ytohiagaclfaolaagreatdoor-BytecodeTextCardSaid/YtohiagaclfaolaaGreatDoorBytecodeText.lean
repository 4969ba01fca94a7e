/- BytecodeText returns true for any instructions and any string; the listed variables of the library hold what the program's text lays. -/
import Derived.Test.YtohiagaclfaolaaGreatDoorSD
import Derived.Test.YtohiagaclfaolaaGreatDoorCards
import Derived.Test.YtohiagaclfaolaaGreatDoorTie
import Derived.LaidMore
import Derived.Lay
import Derived.ProofKit
import Derived.OpenShut
import Derived.Stop.Joined
import Derived.SevenTiedAt

set_option linter.all false

namespace Go.Proofs.YtohiagaclfaolaaGreatDoor.Tx
open Go.Proofs.YtohiagaclfaolaaGreatDoor
open Go Go.Fw Bm
set_option maxRecDepth 20000
theorem law5_law:∀ xs,ShL Tryz.prog Tryz.f5.params.toList xs→PC Tryz.prog 5 xs (.lit (.bool true))
  |[x,y],h=>by
   obtain ⟨c,hs,rfl⟩:=h.1
   obtain ⟨ys,rfl,hl,hy⟩:=sh_slice u22 hs
   obtain ⟨l,rfl,hp⟩:=list_ops fun y h=>shv_op (hy y h)
   obtain ⟨s,rfl,hm⟩:=shv_str u9 h.2.1
   rw [sz50]
   exact law5_pc (by simpa [opsV] using hl) hp hm
  |[],h=>h.elim
  |[_],h=>h.2.elim
  |_::_::_::_,h=>h.2.2.elim
end Go.Proofs.YtohiagaclfaolaaGreatDoor.Tx
namespace Go.Proofs.YtohiagaclfaolaaGreatDoor.bytecodeText
open Go Go.ChangeShapes Go.WideShapes Go.ChangeAt Go.WideMaps Go.WideElems Go.RowKit Go.Fw
theorem own:ownKnob Tryz.prog.godebug=none:=by kernel_rfl
set_option maxRecDepth 100000 in
theorem lifted (os:Os) (started:os.Started) (H:Type) (enc:TypeId×Value→H):
    ReturnsInHanded {} Tryz.checked os 5 .any (fun w args=>(Rows.bytecodeTextSpec.pre enc Tryz.prog Tryz.f5 [] false w args∧laidMetH Tryz.prog Rows.bytecodeTextRow.laid w)∧sizedMet enc Tryz.prog Tryz.f5 (OpenSpec.ofChange Rows.bytecodeTextSpec) false w args)
      (Rows.bytecodeTextSpec.post enc Tryz.prog Tryz.f5 false true false false):=by
  refine returnsInHanded_of_change_and (C:=Tryz.checked) (X:=fun w _=>laidMetH Tryz.prog Rows.bytecodeTextRow.laid w) (fun _ _ _ hh h=>h.of_heap hh) own started (by kernel_rfl) Tryz.func5
    (ChangeSpec.witness_shaped (enc:=enc) (C:=Tryz.checked) (os:=os) (X:=fun w _=>laidMetH Tryz.prog Rows.bytecodeTextRow.laid w) false (World.laidAll Tryz.prog os Rows.bytecodeTextRow.laid) #[.slice none 0 0,.string ByteArray.empty] 8 (World.laidAll_os _ _ _)
      (World.shaped_of_ZipB (by kernel_rfl) (by kernel_rfl)) (by kernel_rfl) (by kernel_rfl) (by kernel_rfl)
      (by rw [MakeChecks.laidMetH_plain _ _ _ (by kernel_rfl)];exact laidMet_laidAll _ (by kernel_rfl) (by kernel_rfl))) ?_
  intro W base args ds gs before hval hW _ _ hL _
  exact law_body (m:=9) Tx.law5_law (by kernel_rfl) (by kernel_rfl) rfl (by kernel_rfl) (fun ds h=>by match ds,h with|[_,_],_=>rfl) rfl (by kernel_rfl) hval hW (Tx.tabs_of (by rw [MakeChecks.laidMetH_plain _ _ _ (by kernel_rfl)] at hL;exact hL))
theorem over:Rows.BytecodeTextSaid:=
  OpenClaim.holds_of_wide 5 Tryz.f5 rfl rfl rfl rfl rfl rfl rfl ⟨rfl,rfl,rfl,rfl,rfl⟩ rfl rfl rfl rfl rfl (by kernel_rfl) Tryz.func5 (by kernel_rfl)
    (of_decide_eq_true (by kernel_rfl)) (by unfold Func.isWrapper;first|(rw [if_pos (by decide+kernel)];kernel_rfl)|(rw [if_neg (by decide+kernel)];exact ⟨rfl,rfl⟩))
    (fun os started H enc _=>lifted os started H enc)
theorem proved:Rows.BytecodeTextCardSaid:=
  Claim7.holds_tied_plain_at .later [] [.data,.data,.data,.data,.sentinel,.sentinel,.pinned] true (true, "35c3b9e5398375e5bd8d288f0a2458647b8b2da43b30418c4b9b6ffcefac7be4") true
    over (fun _ h=>by cases h) (by kernel_rfl) (fun _ h=>by cases h) bytecodeText_row_tie rfl ⟨rfl,rfl⟩ (by kernel_rfl) rfl
    (fun f fn hf hfn=>by
      obtain rfl:f=5:=Option.some.inj ((show Tryz.prog.funcNamed "framewise/framewiselaw52.BytecodeText"=some 5 by kernel_rfl).symm.trans hf)|>.symm
      obtain rfl:fn=Tryz.f5:=(Option.some.inj (Tryz.func5.symm.trans hfn)).symm
      exact ⟨by kernel_rfl,fun j t ht=>by
        have hm:t∈Tryz.f5.params.toList:=by simpa using Array.mem_of_getElem? ht
        have hall:(Tryz.f5.params.toList.all fun u=> !Tryz.prog.wantsStandIn u)=true:=by kernel_rfl
        exact (show Tryz.prog.wantsStandIn t=false by simpa using List.all_eq_true.1 hall t hm)⟩)
    (by kernel_rfl)
#print axioms proved
end Go.Proofs.YtohiagaclfaolaaGreatDoor.bytecodeText
