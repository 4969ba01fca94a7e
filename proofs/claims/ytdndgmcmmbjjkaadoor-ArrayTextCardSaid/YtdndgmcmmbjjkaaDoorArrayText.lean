/- ArrayText returns true for any array and any string; the listed variables of the library hold what the program's text lays. -/
import Derived.Test.YtdndgmcmmbjjkaaDoorSB
import Derived.Test.YtdndgmcmmbjjkaaDoorCards
import Derived.Test.YtdndgmcmmbjjkaaDoorTie
import Derived.LaidMore
import Derived.Lay
import Derived.ProofKit
import Derived.OpenShut
import Derived.Stop.Joined
import Derived.SevenTiedAt

set_option linter.all false

namespace Go.Proofs.YtdndgmcmmbjjkaaDoor.Tx
open Go.Proofs.YtdndgmcmmbjjkaaDoor
open Go Go.Fw
set_option maxRecDepth 20000
theorem law3_law : ∀ xs, ShL Tryd.prog Tryd.f3.params.toList xs → PC Tryd.prog 3 xs (.lit (.bool true))
  | [x, y], h => by
    obtain ⟨a, rfl, _⟩ := shv_arr h.1
    obtain ⟨s, rfl, _⟩ := shv_str u9 h.2.1
    obtain ⟨l, rfl⟩ := bs_ex s
    exact law3
  | [], h => h.elim
  | [_], h => h.2.elim
  | _ :: _ :: _ :: _, h => h.2.2.elim
end Go.Proofs.YtdndgmcmmbjjkaaDoor.Tx
namespace Go.Proofs.YtdndgmcmmbjjkaaDoor.arrayText
open Go Go.ChangeShapes Go.WideShapes Go.ChangeAt Go.WideMaps Go.WideElems Go.RowKit Go.Fw

theorem own : ownKnob Tryd.prog.godebug = none := by kernel_rfl
set_option maxRecDepth 100000 in
theorem lifted (os : Os) (started : os.Started) (H : Type) (enc : TypeId × Value → H) :
    ReturnsInHanded {} Tryd.checked os 3 .any (fun w args => (Rows.arrayTextSpec.pre enc Tryd.prog Tryd.f3 [] false w args ∧ laidMetH Tryd.prog Rows.arrayTextRow.laid w) ∧ sizedMet enc Tryd.prog Tryd.f3 (OpenSpec.ofChange Rows.arrayTextSpec) false w args)
      (Rows.arrayTextSpec.post enc Tryd.prog Tryd.f3 false true false false) := by
  refine returnsInHanded_of_change_and (C := Tryd.checked) (X := fun w _ => laidMetH Tryd.prog Rows.arrayTextRow.laid w) (fun _ _ _ hh h => h.of_heap hh) own started (by kernel_rfl) Tryd.func3
    (ChangeSpec.witness_shaped (enc := enc) (C := Tryd.checked) (os := os) (X := fun w _ => laidMetH Tryd.prog Rows.arrayTextRow.laid w) false (World.laidAll Tryd.prog os Rows.arrayTextRow.laid) #[.agg #[.string ByteArray.empty, .slice none 0 0, .slice none 0 0], .string ByteArray.empty] 8 (World.laidAll_os _ _ _)
      (World.shaped_of_ZipB (by kernel_rfl) (by kernel_rfl)) (by kernel_rfl) (by kernel_rfl) (by kernel_rfl)
      (by rw [MakeChecks.laidMetH_plain _ _ _ (by kernel_rfl)]; exact laidMet_laidAll _ (by kernel_rfl) (by kernel_rfl))) ?_
  intro W base args ds gs before hval hW _ _ hL _
  exact law_body (m := 9) Tx.law3_law (by kernel_rfl) (by kernel_rfl) rfl (by kernel_rfl) (fun ds h => by match ds, h with | [_, _], _ => rfl) rfl (by kernel_rfl) hval hW (Tx.tabs_of (by rw [MakeChecks.laidMetH_plain _ _ _ (by kernel_rfl)] at hL; exact hL))

theorem over : Rows.ArrayTextSaid :=
  OpenClaim.holds_of_wide 3 Tryd.f3 rfl rfl rfl rfl rfl rfl rfl ⟨rfl, rfl, rfl, rfl, rfl⟩ rfl rfl rfl rfl rfl (by kernel_rfl) Tryd.func3 (by kernel_rfl)
    (of_decide_eq_true (by kernel_rfl)) (by unfold Func.isWrapper; first | (rw [if_pos (by decide +kernel)]; kernel_rfl) | (rw [if_neg (by decide +kernel)]; exact ⟨rfl, rfl⟩))
    (fun os started H enc _ => lifted os started H enc)

theorem proved : Rows.ArrayTextCardSaid :=
  Claim7.holds_tied_plain_at .later [] [.data, .data, .data, .sentinel, .sentinel, .listed, .data] true (true, "4ef772d345619d96b79b3c749d54ab78111cb22e43428d26c03795e727d8cef2") true
    over (fun _ h => by cases h) (by kernel_rfl) (fun _ h => by cases h) arrayText_row_tie rfl ⟨rfl, rfl⟩ (by kernel_rfl) rfl
    (fun f fn hf hfn => by
      obtain rfl : f = 3 := Option.some.inj ((show Tryd.prog.funcNamed "framewise/framewiselaw18.ArrayText" = some 3 by kernel_rfl).symm.trans hf) |>.symm
      obtain rfl : fn = Tryd.f3 := (Option.some.inj (Tryd.func3.symm.trans hfn)).symm
      exact ⟨by kernel_rfl, fun j t ht => by
        have hm : t ∈ Tryd.f3.params.toList := by simpa using Array.mem_of_getElem? ht
        have hall : (Tryd.f3.params.toList.all fun u => !Tryd.prog.wantsStandIn u) = true := by kernel_rfl
        exact (show Tryd.prog.wantsStandIn t = false by simpa using List.all_eq_true.1 hall t hm)⟩)
    (by kernel_rfl)
#print axioms proved
end Go.Proofs.YtdndgmcmmbjjkaaDoor.arrayText
