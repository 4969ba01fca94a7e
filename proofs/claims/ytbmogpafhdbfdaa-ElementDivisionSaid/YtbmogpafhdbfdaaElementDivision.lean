/- Division. -/
import Derived.Test.YtbmogpafhdbfdaaEE
import Derived.Test.YtbmogpafhdbfdaaFwB

set_option linter.all false

namespace Go.Proofs.Ytbmogpafhdbfdaa
open Go Go.Fw

noncomputable def E13 : Env := envOf (P := Try.prog) zer (fun _ => false) (fun _ => false) [con10, con15] []
theorem E13_ok : EnvOk Try.prog E13 := envOk zer_ok
theorem wrap_el' {n : Int} (h : el n) : IntKind.i64.wrap n = n := wrap_i64 (el_i64 h)
theorem w32_ex' (n : Int) : ∃ k, w32 n = n + k * 4294967296 := ⟨-((n + 2147483648) / 4294967296), by rw [w32_eq]; omega⟩
theorem w32_k' (n k : Int) : w32 (n + k * 4294967296) = w32 n := by rw [w32_eq, w32_eq]; omega
theorem w32_mul' (x y : Int) : w32 (x * w32 y) = w32 (x * y) := by
  obtain ⟨k, hk⟩ := w32_ex' y
  rw [hk, Int.mul_add, ← Int.mul_assoc, w32_k']
theorem division_pc {a b : Int} (ha : el a) (hb : el b) : PC Try.prog 5 [.lit (.int .i32 a), .lit (.int .i32 b)] (.lit (.bool true)) := by
  have v1 := wrap_el' ha
  have v2 := wrap_el' hb
  by_cases h0 : b = 0
  · subst h0
    have e1 : flo a 0 = 0 := if_pos rfl
    have e2 : w32 0 = 0 := by decide +kernel
    have e3 : el 0 := by unfold el; omega
    have e4 : IntKind.i64.wrap 0 = 0 := wrap_el' e3
    refine pc_of E13_ok mixed (fun _ => [0, 1, 4, 5, 6, 7, 8, 10, 24]) Try.func5 rfl (by kernel_rfl) (Nat.le_of_ble_eq_true rfl) ?_
    simp only [initF_cons, initF_nil, Nat.reduceAdd]
    refine t_name fun KF => ?_
    unfold E13
    repeat' (first
      | with_reducible refine t_seq fun K => ?_
      | with_reducible refine t_block ?_
      | with_reducible refine t_scope ?_
      | with_reducible refine t_label ?_
      | with_reducible refine t_skip ?_
      | with_reducible refine t_exit ?_
      | with_reducible refine t_ret ?_
      | with_reducible refine t_k ?_
      | (with_reducible refine t_gF ?_)
      | ((first | with_reducible refine t_kE ?_ | with_reducible refine t_kD ?_ | with_reducible refine t_gS ?_ | with_reducible refine t_kL ?_ | (with_reducible refine t_kLE ?_ ?_; rotate_left) | with_reducible refine t_region fun K => ?_ | with_reducible refine t_draw (by kernel_rfl) fun K => ?_); simp only [go_sem, Int.cast_ofNat_Int, Nat.reduceEqDiff, reduceIte, Nat.reduceAdd, Nat.reduceMul, Nat.reduceLeDiff, Nat.reduceSub, Nat.reduceLT, Nat.zero_lt_succ, Int.reduceToNat, Int.reduceAdd, Int.reduceSub, Int.reduceMul, Int.reduceNeg, Int.reduceLT, Int.reduceLE, Int.reduceEq, Int.reduceBEq, Int.reduceBNe, Nat.reduceBEq, List.reduceReplicate, con10_f, con15_f, con10_c, ap_3, ap_4, v1, v2, e1, e2, e4, beq_self_eq_true, pickB])
      | (with_reducible exact kp_nil)
      | (with_reducible exact Kp.refl _)
      | (with_reducible exact kp_to)
      | (with_reducible refine kp_cons ?_)
      | (with_reducible refine kp_arr ?_)
      | (with_reducible refine kp_app ?_)
      | ((with_reducible refine t_cond fun A B => ?_); simp only [go_sem, Int.cast_ofNat_Int, Nat.reduceEqDiff, reduceIte, Nat.reduceAdd, Nat.reduceMul, Nat.reduceLeDiff, Nat.reduceSub, Nat.reduceLT, Nat.zero_lt_succ, Int.reduceToNat, Int.reduceAdd, Int.reduceSub, Int.reduceMul, Int.reduceNeg, Int.reduceLT, Int.reduceLE, Int.reduceEq, Int.reduceBEq, Int.reduceBNe, Nat.reduceBEq, List.reduceReplicate, con10_f, con15_f, con10_c, ap_3, ap_4, v1, v2, e1, e2, e4, beq_self_eq_true, pickB]; first | (with_reducible refine A.h ?_) | (with_reducible refine B.h ?_) | refine And.intro (fun hc => A.h ?_) (fun hc => B.h ?_))
      | simp only [thenQ_n, thenQ_r, thenQ_e, blockQ_n, blockQ_r, blockQ_e, scopeQ_n, scopeQ_r, scopeQ_e, Nat.reduceEqDiff, reduceIte]
      | (with_reducible refine And.intro ?_ ?_)
      | with_reducible intro vr)
    all_goals try (intros; (try simp only [Bool.and_eq_true, Bool.or_eq_true, Bool.not_eq_true', decide_eq_true_eq, decide_eq_false_iff_not, beq_iff_eq, bne_iff_ne, ne_eq, inI64, List.length_append] at *) <;> omega)
    all_goals try (intros; first | assumption | exact w32_el _ | (refine ⟨?_, ?_⟩ <;> first | assumption | exact w32_el _))
    refine end_ret rfl ?_
    simp only [fin, go_sem, Int.cast_ofNat_Int, Nat.reduceEqDiff, reduceIte, Nat.reduceAdd, Nat.reduceMul, Nat.reduceLeDiff, Nat.reduceSub, Nat.reduceLT, Nat.zero_lt_succ, Int.reduceToNat, Int.reduceAdd, Int.reduceSub, Int.reduceMul, Int.reduceNeg, Int.reduceLT, Int.reduceLE, Int.reduceEq, Int.reduceBEq, Int.reduceBNe, Nat.reduceBEq, List.reduceReplicate, beq_self_eq_true]
    exact LeA.refl _
  have z0 : (b == 0) = false := by rw [beq_eq_false_iff_ne]; exact h0
  have z1 : (b = 0) = False := eq_false h0
  have hs := flo_spec (a := a) h0
  have ha' := ha
  have hb' := hb
  unfold el at ha' hb'
  have he : el (a - b * flo a b) := by unfold el; omega
  have e5 : w32 (w32 (b * w32 (flo a b)) + (a - b * flo a b)) = a := by
    rw [w32_mul']
    obtain ⟨k, hk⟩ := w32_ex' (b * flo a b)
    rw [hk, show b * flo a b + k * 4294967296 + (a - b * flo a b) = a + k * 4294967296 by omega, w32_k', w32_id ha]
  generalize hr : a - b * flo a b = r at *
  rcases Int.lt_trichotomy b 0 with h1 | h1 | h1
  · have z2 : decide (b > 0) = false := decide_eq_false (by omega)
    have z3 : decide (b < 0) = true := decide_eq_true (by omega)
    have z4 : decide (r ≤ 0) = true := decide_eq_true (by omega)
    have z5 : decide (r > b) = true := decide_eq_true (by omega)
    refine pc_of E13_ok mixed (fun _ => [0, 1, 4, 5, 6, 7, 8, 10, 24]) Try.func5 rfl (by kernel_rfl) (Nat.le_of_ble_eq_true rfl) ?_
    simp only [initF_cons, initF_nil, Nat.reduceAdd]
    refine t_name fun KF => ?_
    unfold E13
    repeat' (first
      | with_reducible refine t_seq fun K => ?_
      | with_reducible refine t_block ?_
      | with_reducible refine t_scope ?_
      | with_reducible refine t_label ?_
      | with_reducible refine t_skip ?_
      | with_reducible refine t_exit ?_
      | with_reducible refine t_ret ?_
      | with_reducible refine t_k ?_
      | (with_reducible refine t_gF ?_)
      | ((first | with_reducible refine t_kE ?_ | with_reducible refine t_kD ?_ | with_reducible refine t_gS ?_ | with_reducible refine t_kL ?_ | (with_reducible refine t_kLE ?_ ?_; rotate_left) | with_reducible refine t_region fun K => ?_ | with_reducible refine t_draw (by kernel_rfl) fun K => ?_); simp only [go_sem, Int.cast_ofNat_Int, Nat.reduceEqDiff, reduceIte, Nat.reduceAdd, Nat.reduceMul, Nat.reduceLeDiff, Nat.reduceSub, Nat.reduceLT, Nat.zero_lt_succ, Int.reduceToNat, Int.reduceAdd, Int.reduceSub, Int.reduceMul, Int.reduceNeg, Int.reduceLT, Int.reduceLE, Int.reduceEq, Int.reduceBEq, Int.reduceBNe, Nat.reduceBEq, List.reduceReplicate, con10_f, con15_f, con10_c, ap_0, ap_2, ap_3, ap_4, v1, v2, hr, e5, z0, z1, z2, z3, z4, z5, beq_self_eq_true, pickB, if_false])
      | (with_reducible exact kp_nil)
      | (with_reducible exact Kp.refl _)
      | (with_reducible exact kp_to)
      | (with_reducible refine kp_cons ?_)
      | (with_reducible refine kp_arr ?_)
      | (with_reducible refine kp_app ?_)
      | ((with_reducible refine t_cond fun A B => ?_); simp only [go_sem, Int.cast_ofNat_Int, Nat.reduceEqDiff, reduceIte, Nat.reduceAdd, Nat.reduceMul, Nat.reduceLeDiff, Nat.reduceSub, Nat.reduceLT, Nat.zero_lt_succ, Int.reduceToNat, Int.reduceAdd, Int.reduceSub, Int.reduceMul, Int.reduceNeg, Int.reduceLT, Int.reduceLE, Int.reduceEq, Int.reduceBEq, Int.reduceBNe, Nat.reduceBEq, List.reduceReplicate, con10_f, con15_f, con10_c, ap_0, ap_2, ap_3, ap_4, v1, v2, hr, e5, z0, z1, z2, z3, z4, z5, beq_self_eq_true, pickB, if_false]; first | (with_reducible refine A.h ?_) | (with_reducible refine B.h ?_) | refine And.intro (fun hc => A.h ?_) (fun hc => B.h ?_))
      | simp only [thenQ_n, thenQ_r, thenQ_e, blockQ_n, blockQ_r, blockQ_e, scopeQ_n, scopeQ_r, scopeQ_e, Nat.reduceEqDiff, reduceIte]
      | (with_reducible refine And.intro ?_ ?_)
      | with_reducible intro vr)
    all_goals try (intros; (try simp only [Bool.and_eq_true, Bool.or_eq_true, Bool.not_eq_true', decide_eq_true_eq, decide_eq_false_iff_not, beq_iff_eq, bne_iff_ne, ne_eq, inI64, List.length_append] at *) <;> omega)
    all_goals try (intros; first | assumption | exact w32_el _ | (refine ⟨?_, ?_⟩ <;> first | assumption | exact w32_el _))
    refine end_ret rfl ?_
    simp only [fin, go_sem, Int.cast_ofNat_Int, Nat.reduceEqDiff, reduceIte, Nat.reduceAdd, Nat.reduceMul, Nat.reduceLeDiff, Nat.reduceSub, Nat.reduceLT, Nat.zero_lt_succ, Int.reduceToNat, Int.reduceAdd, Int.reduceSub, Int.reduceMul, Int.reduceNeg, Int.reduceLT, Int.reduceLE, Int.reduceEq, Int.reduceBEq, Int.reduceBNe, Nat.reduceBEq, List.reduceReplicate, beq_self_eq_true]
    exact LeA.refl _
  · exact absurd h1 h0
  · have z2 : decide (b > 0) = true := decide_eq_true (by omega)
    have z4 : decide (r ≥ 0) = true := decide_eq_true (by omega)
    have z5 : decide (r < b) = true := decide_eq_true (by omega)
    refine pc_of E13_ok mixed (fun _ => [0, 1, 4, 5, 6, 7, 8, 10, 24]) Try.func5 rfl (by kernel_rfl) (Nat.le_of_ble_eq_true rfl) ?_
    simp only [initF_cons, initF_nil, Nat.reduceAdd]
    refine t_name fun KF => ?_
    unfold E13
    repeat' (first
      | with_reducible refine t_seq fun K => ?_
      | with_reducible refine t_block ?_
      | with_reducible refine t_scope ?_
      | with_reducible refine t_label ?_
      | with_reducible refine t_skip ?_
      | with_reducible refine t_exit ?_
      | with_reducible refine t_ret ?_
      | with_reducible refine t_k ?_
      | (with_reducible refine t_gF ?_)
      | ((first | with_reducible refine t_kE ?_ | with_reducible refine t_kD ?_ | with_reducible refine t_gS ?_ | with_reducible refine t_kL ?_ | (with_reducible refine t_kLE ?_ ?_; rotate_left) | with_reducible refine t_region fun K => ?_ | with_reducible refine t_draw (by kernel_rfl) fun K => ?_); simp only [go_sem, Int.cast_ofNat_Int, Nat.reduceEqDiff, reduceIte, Nat.reduceAdd, Nat.reduceMul, Nat.reduceLeDiff, Nat.reduceSub, Nat.reduceLT, Nat.zero_lt_succ, Int.reduceToNat, Int.reduceAdd, Int.reduceSub, Int.reduceMul, Int.reduceNeg, Int.reduceLT, Int.reduceLE, Int.reduceEq, Int.reduceBEq, Int.reduceBNe, Nat.reduceBEq, List.reduceReplicate, con10_f, con15_f, con10_c, ap_0, ap_2, ap_3, ap_4, v1, v2, hr, e5, z0, z1, z2, z4, z5, beq_self_eq_true, pickB, if_false])
      | (with_reducible exact kp_nil)
      | (with_reducible exact Kp.refl _)
      | (with_reducible exact kp_to)
      | (with_reducible refine kp_cons ?_)
      | (with_reducible refine kp_arr ?_)
      | (with_reducible refine kp_app ?_)
      | ((with_reducible refine t_cond fun A B => ?_); simp only [go_sem, Int.cast_ofNat_Int, Nat.reduceEqDiff, reduceIte, Nat.reduceAdd, Nat.reduceMul, Nat.reduceLeDiff, Nat.reduceSub, Nat.reduceLT, Nat.zero_lt_succ, Int.reduceToNat, Int.reduceAdd, Int.reduceSub, Int.reduceMul, Int.reduceNeg, Int.reduceLT, Int.reduceLE, Int.reduceEq, Int.reduceBEq, Int.reduceBNe, Nat.reduceBEq, List.reduceReplicate, con10_f, con15_f, con10_c, ap_0, ap_2, ap_3, ap_4, v1, v2, hr, e5, z0, z1, z2, z4, z5, beq_self_eq_true, pickB, if_false]; first | (with_reducible refine A.h ?_) | (with_reducible refine B.h ?_) | refine And.intro (fun hc => A.h ?_) (fun hc => B.h ?_))
      | simp only [thenQ_n, thenQ_r, thenQ_e, blockQ_n, blockQ_r, blockQ_e, scopeQ_n, scopeQ_r, scopeQ_e, Nat.reduceEqDiff, reduceIte]
      | (with_reducible refine And.intro ?_ ?_)
      | with_reducible intro vr)
    all_goals try (intros; (try simp only [Bool.and_eq_true, Bool.or_eq_true, Bool.not_eq_true', decide_eq_true_eq, decide_eq_false_iff_not, beq_iff_eq, bne_iff_ne, ne_eq, inI64, List.length_append] at *) <;> omega)
    all_goals try (intros; first | assumption | exact w32_el _ | (refine ⟨?_, ?_⟩ <;> first | assumption | exact w32_el _))
    refine end_ret rfl ?_
    simp only [fin, go_sem, Int.cast_ofNat_Int, Nat.reduceEqDiff, reduceIte, Nat.reduceAdd, Nat.reduceMul, Nat.reduceLeDiff, Nat.reduceSub, Nat.reduceLT, Nat.zero_lt_succ, Int.reduceToNat, Int.reduceAdd, Int.reduceSub, Int.reduceMul, Int.reduceNeg, Int.reduceLT, Int.reduceLE, Int.reduceEq, Int.reduceBEq, Int.reduceBNe, Nat.reduceBEq, List.reduceReplicate, beq_self_eq_true]
    exact LeA.refl _
theorem division_law : ∀ xs, ShL Try.prog Try.f5.params.toList xs → PC Try.prog 5 xs (.lit (.bool true))
  | [x, y], h => by
    obtain ⟨a, rfl, ha⟩ := shv_int u21 h.1
    obtain ⟨b, rfl, hb⟩ := shv_int u21 h.2.1
    exact division_pc (by have := wf_i32 ha; unfold el; omega) (by have := wf_i32 hb; unfold el; omega)
  | [], h => h.elim
  | [_], h => h.2.elim
  | _ :: _ :: _ :: _, h => h.2.2.elim
end Go.Proofs.Ytbmogpafhdbfdaa

/- ElementDivision returns true for any two 32-bit numbers. -/
namespace Go.Proofs.Ytbmogpafhdbfdaa.elementDivision
open Go.ChangeShapes Go.WideShapes Go.ChangeAt Go.RowKit Go.Fw

theorem own : ownKnob Try.prog.godebug = none := by kernel_rfl
set_option maxRecDepth 100000 in
theorem lifted (os : Os) (started : os.Started) (H : Type) (enc : TypeId × Value → H) :
    ReturnsInHanded {} Try.checked os 5 .any (Rows.elementDivisionSpec.pre6 enc Try.prog Try.f5 Rows.elementDivisionRow.domain false) (Rows.elementDivisionSpec.post enc Try.prog Try.f5 false true false false) := by
  refine returnsInHanded_of_change (C := Try.checked) own started (by kernel_rfl) Try.func5
    (ChangeSpec.witness6 (enc := enc) (C := Try.checked) false ⟨#[], #[.int .i32 0, .int .i32 0], []⟩ 8 (by kernel_rfl) (by kernel_rfl) (by kernel_rfl) (by kernel_rfl)) ?_
  intro W base args ds gs before hval hW hcnd _
  exact law_body (m := 9) division_law (by kernel_rfl) (by kernel_rfl) rfl (by kernel_rfl) (fun ds h => by match ds, h with | [_, _], _ => rfl) rfl (by kernel_rfl) hval hW

theorem over : Rows.elementDivisionRow.holds Try.pinned (OpenSpec.ofChange Rows.elementDivisionSpec) :=
  OpenClaim.holds_of_wide 5 Try.f5 rfl rfl rfl rfl rfl rfl rfl ⟨rfl, rfl, rfl, rfl, rfl⟩ rfl rfl rfl rfl rfl (by kernel_rfl) Try.func5 (by kernel_rfl)
    (of_decide_eq_true (by kernel_rfl)) (by unfold Func.isWrapper; first | (rw [if_pos (by decide +kernel)]; kernel_rfl) | (rw [if_neg (by decide +kernel)]; exact ⟨rfl, rfl⟩))
    (fun os started H enc _ => lifted os started H enc)

theorem proved : Rows.ElementDivisionSaid :=
  over
#print axioms proved
end Go.Proofs.Ytbmogpafhdbfdaa.elementDivision
