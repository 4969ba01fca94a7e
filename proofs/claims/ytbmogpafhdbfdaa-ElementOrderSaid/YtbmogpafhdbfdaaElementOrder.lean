/- Order, least and greatest. -/
import Derived.Test.YtbmogpafhdbfdaaEE
import Derived.Test.YtbmogpafhdbfdaaFwB

set_option linter.all false

namespace Go.Proofs.Ytbmogpafhdbfdaa
open Go Go.Fw

noncomputable def E14 : Env := envOf (P := Try.prog) zer (fun _ => false) (fun _ => false) [con10, con15] []
theorem E14_ok : EnvOk Try.prog E14 := envOk zer_ok
theorem minel {a b : Int} (ha : el a) (hb : el b) : el (minI a b) := by unfold minI; split <;> assumption
theorem maxel {a b : Int} (ha : el a) (hb : el b) : el (maxI a b) := by unfold maxI; split <;> assumption
theorem sgnel (a : Int) : el (sgn a) := by unfold sgn el; split <;> (try split) <;> omega
theorem tru_t : tru true = 1 := rfl
theorem tru_f : tru false = 0 := rfl
set_option maxRecDepth 20000 in
set_option maxHeartbeats 20000000 in
theorem order_pc {a b c : Int} (ha : el a) (hb : el b) (hc : el c) : PC Try.prog 6 [.lit (.int .i32 a), .lit (.int .i32 b), .lit (.int .i32 c)] (.lit (.bool true)) := by
  have v1 : IntKind.i64.wrap a = a := wrap_i64 (el_i64 ha)
  have v2 : IntKind.i64.wrap b = b := wrap_i64 (el_i64 hb)
  have v3 : IntKind.i64.wrap c = c := wrap_i64 (el_i64 hc)
  have c1 : minI b a = minI a b := by unfold minI; split <;> split <;> omega
  have c2 : maxI b a = maxI a b := by unfold maxI; split <;> split <;> omega
  have c3 : minI a (minI b c) = minI (minI a b) c := by simp only [minI]; split <;> split <;> (try split) <;> (try split) <;> omega
  have c4 : maxI a (maxI b c) = maxI (maxI a b) c := by simp only [maxI]; split <;> split <;> (try split) <;> (try split) <;> omega
  have c5 : minI a (maxI a b) = a := by simp only [minI, maxI]; split <;> split <;> omega
  have c6 : maxI a (minI a b) = a := by simp only [minI, maxI]; split <;> split <;> omega
  have c7 : w32 (a * sgn a) = w32 (maxI a (0 - a)) := by
    congr 1
    unfold sgn maxI
    split
    · split <;> omega
    · split <;> split <;> omega
  have c8 : w32 (minI a b + maxI a b) = w32 (a + b) := by
    congr 1
    unfold minI maxI
    split <;> split <;> omega
  have hm := minel ha hb
  have hM := maxel ha hb
  have hs := sgnel a
  have hm2 := minel hb hc
  have hM2 := maxel hb hc
  rcases Int.lt_trichotomy a b with h | h | h
  · have z1 : decide (a < b) = true := decide_eq_true (by omega)
    have z2 : (a == b) = false := by rw [beq_eq_false_iff_ne]; omega
    have z3 : decide (a > b) = false := decide_eq_false (by omega)
    have z4 : decide (a ≤ b) = true := decide_eq_true (by omega)
    have z5 : decide (a ≥ b) = false := decide_eq_false (by omega)
    have z6 : (a != b) = true := by rw [bne_iff_ne]; omega
    refine pc_of E14_ok mixed (fun _ => [0, 1, 2, 6, 7, 8, 9, 10, 11, 12, 13, 14, 16]) Try.func6 rfl (by kernel_rfl) (Nat.le_of_ble_eq_true rfl) ?_
    simp only [initF_cons, initF_nil, Nat.reduceAdd]
    refine t_name fun KF => ?_
    unfold E14
    repeat' (first
      | with_reducible refine t_seq fun K => ?_
      | with_reducible refine t_block ?_
      | with_reducible refine t_scope ?_
      | with_reducible refine t_label ?_
      | with_reducible refine t_skip ?_
      | with_reducible refine t_exit ?_
      | with_reducible refine t_ret ?_
      | with_reducible refine t_k ?_
      | (with_reducible refine t_gF ?_)
      | ((first | with_reducible refine t_kE ?_ | with_reducible refine t_kD ?_ | with_reducible refine t_gS ?_ | with_reducible refine t_kL ?_ | (with_reducible refine t_kLE ?_ ?_; rotate_left) | with_reducible refine t_region fun K => ?_ | with_reducible refine t_draw (by kernel_rfl) fun K => ?_); simp only [go_sem, Int.cast_ofNat_Int, Nat.reduceEqDiff, reduceIte, Nat.reduceAdd, Nat.reduceMul, Nat.reduceLeDiff, Nat.reduceSub, Nat.reduceLT, Nat.zero_lt_succ, Int.reduceToNat, Int.reduceAdd, Int.reduceSub, Int.reduceMul, Int.reduceNeg, Int.reduceLT, Int.reduceLE, Int.reduceEq, Int.reduceBEq, Int.reduceBNe, Nat.reduceBEq, List.reduceReplicate, con10_f, con15_f, con10_c, ap_0, ap_2, ap_5, ap_6, ap_8, ap_9, ap_10, ap_11, ap_12, ap_13, ap_14, ap_15, v1, v2, v3, c1, c2, c3, c4, c5, c6, c7, c8, z1, z2, z3, z4, z5, z6, tru_t, tru_f, beq_self_eq_true, pickB])
      | (with_reducible exact kp_nil)
      | (with_reducible exact Kp.refl _)
      | (with_reducible exact kp_to)
      | (with_reducible refine kp_cons ?_)
      | (with_reducible refine kp_arr ?_)
      | (with_reducible refine kp_app ?_)
      | ((with_reducible refine t_cond fun A B => ?_); simp only [go_sem, Int.cast_ofNat_Int, Nat.reduceEqDiff, reduceIte, Nat.reduceAdd, Nat.reduceMul, Nat.reduceLeDiff, Nat.reduceSub, Nat.reduceLT, Nat.zero_lt_succ, Int.reduceToNat, Int.reduceAdd, Int.reduceSub, Int.reduceMul, Int.reduceNeg, Int.reduceLT, Int.reduceLE, Int.reduceEq, Int.reduceBEq, Int.reduceBNe, Nat.reduceBEq, List.reduceReplicate, con10_f, con15_f, con10_c, ap_0, ap_2, ap_5, ap_6, ap_8, ap_9, ap_10, ap_11, ap_12, ap_13, ap_14, ap_15, v1, v2, v3, c1, c2, c3, c4, c5, c6, c7, c8, z1, z2, z3, z4, z5, z6, tru_t, tru_f, beq_self_eq_true, pickB]; first | (with_reducible refine A.h ?_) | (with_reducible refine B.h ?_) | refine And.intro (fun hc => A.h ?_) (fun hc => B.h ?_))
      | simp only [thenQ_n, thenQ_r, thenQ_e, blockQ_n, blockQ_r, blockQ_e, scopeQ_n, scopeQ_r, scopeQ_e, Nat.reduceEqDiff, reduceIte]
      | (with_reducible refine And.intro ?_ ?_)
      | with_reducible intro vr)
    all_goals try (intros; (try simp only [Bool.and_eq_true, Bool.or_eq_true, Bool.not_eq_true', decide_eq_true_eq, decide_eq_false_iff_not, beq_iff_eq, bne_iff_ne, ne_eq, inI64, List.length_append] at *) <;> omega)
    all_goals try (intros; first | assumption | (refine ⟨?_, ?_⟩ <;> assumption))
    refine end_ret rfl ?_
    simp only [fin, go_sem, Int.cast_ofNat_Int, Nat.reduceEqDiff, reduceIte, Nat.reduceAdd, Nat.reduceMul, Nat.reduceLeDiff, Nat.reduceSub, Nat.reduceLT, Nat.zero_lt_succ, Int.reduceToNat, Int.reduceAdd, Int.reduceSub, Int.reduceMul, Int.reduceNeg, Int.reduceLT, Int.reduceLE, Int.reduceEq, Int.reduceBEq, Int.reduceBNe, Nat.reduceBEq, List.reduceReplicate, beq_self_eq_true]
    exact LeA.refl _
  · have z1 : decide (a < b) = false := decide_eq_false (by omega)
    have z2 : (a == b) = true := by rw [beq_iff_eq]; omega
    have z3 : decide (a > b) = false := decide_eq_false (by omega)
    have z4 : decide (a ≤ b) = true := decide_eq_true (by omega)
    have z5 : decide (a ≥ b) = true := decide_eq_true (by omega)
    have z6 : (a != b) = false := by rw [bne_eq_false_iff_eq]; omega
    refine pc_of E14_ok mixed (fun _ => [0, 1, 2, 6, 7, 8, 9, 10, 11, 12, 13, 14, 16]) Try.func6 rfl (by kernel_rfl) (Nat.le_of_ble_eq_true rfl) ?_
    simp only [initF_cons, initF_nil, Nat.reduceAdd]
    refine t_name fun KF => ?_
    unfold E14
    repeat' (first
      | with_reducible refine t_seq fun K => ?_
      | with_reducible refine t_block ?_
      | with_reducible refine t_scope ?_
      | with_reducible refine t_label ?_
      | with_reducible refine t_skip ?_
      | with_reducible refine t_exit ?_
      | with_reducible refine t_ret ?_
      | with_reducible refine t_k ?_
      | (with_reducible refine t_gF ?_)
      | ((first | with_reducible refine t_kE ?_ | with_reducible refine t_kD ?_ | with_reducible refine t_gS ?_ | with_reducible refine t_kL ?_ | (with_reducible refine t_kLE ?_ ?_; rotate_left) | with_reducible refine t_region fun K => ?_ | with_reducible refine t_draw (by kernel_rfl) fun K => ?_); simp only [go_sem, Int.cast_ofNat_Int, Nat.reduceEqDiff, reduceIte, Nat.reduceAdd, Nat.reduceMul, Nat.reduceLeDiff, Nat.reduceSub, Nat.reduceLT, Nat.zero_lt_succ, Int.reduceToNat, Int.reduceAdd, Int.reduceSub, Int.reduceMul, Int.reduceNeg, Int.reduceLT, Int.reduceLE, Int.reduceEq, Int.reduceBEq, Int.reduceBNe, Nat.reduceBEq, List.reduceReplicate, con10_f, con15_f, con10_c, ap_0, ap_2, ap_5, ap_6, ap_8, ap_9, ap_10, ap_11, ap_12, ap_13, ap_14, ap_15, v1, v2, v3, c1, c2, c3, c4, c5, c6, c7, c8, z1, z2, z3, z4, z5, z6, tru_t, tru_f, beq_self_eq_true, pickB])
      | (with_reducible exact kp_nil)
      | (with_reducible exact Kp.refl _)
      | (with_reducible exact kp_to)
      | (with_reducible refine kp_cons ?_)
      | (with_reducible refine kp_arr ?_)
      | (with_reducible refine kp_app ?_)
      | ((with_reducible refine t_cond fun A B => ?_); simp only [go_sem, Int.cast_ofNat_Int, Nat.reduceEqDiff, reduceIte, Nat.reduceAdd, Nat.reduceMul, Nat.reduceLeDiff, Nat.reduceSub, Nat.reduceLT, Nat.zero_lt_succ, Int.reduceToNat, Int.reduceAdd, Int.reduceSub, Int.reduceMul, Int.reduceNeg, Int.reduceLT, Int.reduceLE, Int.reduceEq, Int.reduceBEq, Int.reduceBNe, Nat.reduceBEq, List.reduceReplicate, con10_f, con15_f, con10_c, ap_0, ap_2, ap_5, ap_6, ap_8, ap_9, ap_10, ap_11, ap_12, ap_13, ap_14, ap_15, v1, v2, v3, c1, c2, c3, c4, c5, c6, c7, c8, z1, z2, z3, z4, z5, z6, tru_t, tru_f, beq_self_eq_true, pickB]; first | (with_reducible refine A.h ?_) | (with_reducible refine B.h ?_) | refine And.intro (fun hc => A.h ?_) (fun hc => B.h ?_))
      | simp only [thenQ_n, thenQ_r, thenQ_e, blockQ_n, blockQ_r, blockQ_e, scopeQ_n, scopeQ_r, scopeQ_e, Nat.reduceEqDiff, reduceIte]
      | (with_reducible refine And.intro ?_ ?_)
      | with_reducible intro vr)
    all_goals try (intros; (try simp only [Bool.and_eq_true, Bool.or_eq_true, Bool.not_eq_true', decide_eq_true_eq, decide_eq_false_iff_not, beq_iff_eq, bne_iff_ne, ne_eq, inI64, List.length_append] at *) <;> omega)
    all_goals try (intros; first | assumption | (refine ⟨?_, ?_⟩ <;> assumption))
    refine end_ret rfl ?_
    simp only [fin, go_sem, Int.cast_ofNat_Int, Nat.reduceEqDiff, reduceIte, Nat.reduceAdd, Nat.reduceMul, Nat.reduceLeDiff, Nat.reduceSub, Nat.reduceLT, Nat.zero_lt_succ, Int.reduceToNat, Int.reduceAdd, Int.reduceSub, Int.reduceMul, Int.reduceNeg, Int.reduceLT, Int.reduceLE, Int.reduceEq, Int.reduceBEq, Int.reduceBNe, Nat.reduceBEq, List.reduceReplicate, beq_self_eq_true]
    exact LeA.refl _
  · have z1 : decide (a < b) = false := decide_eq_false (by omega)
    have z2 : (a == b) = false := by rw [beq_eq_false_iff_ne]; omega
    have z3 : decide (a > b) = true := decide_eq_true (by omega)
    have z4 : decide (a ≤ b) = false := decide_eq_false (by omega)
    have z5 : decide (a ≥ b) = true := decide_eq_true (by omega)
    have z6 : (a != b) = true := by rw [bne_iff_ne]; omega
    refine pc_of E14_ok mixed (fun _ => [0, 1, 2, 6, 7, 8, 9, 10, 11, 12, 13, 14, 16]) Try.func6 rfl (by kernel_rfl) (Nat.le_of_ble_eq_true rfl) ?_
    simp only [initF_cons, initF_nil, Nat.reduceAdd]
    refine t_name fun KF => ?_
    unfold E14
    repeat' (first
      | with_reducible refine t_seq fun K => ?_
      | with_reducible refine t_block ?_
      | with_reducible refine t_scope ?_
      | with_reducible refine t_label ?_
      | with_reducible refine t_skip ?_
      | with_reducible refine t_exit ?_
      | with_reducible refine t_ret ?_
      | with_reducible refine t_k ?_
      | (with_reducible refine t_gF ?_)
      | ((first | with_reducible refine t_kE ?_ | with_reducible refine t_kD ?_ | with_reducible refine t_gS ?_ | with_reducible refine t_kL ?_ | (with_reducible refine t_kLE ?_ ?_; rotate_left) | with_reducible refine t_region fun K => ?_ | with_reducible refine t_draw (by kernel_rfl) fun K => ?_); simp only [go_sem, Int.cast_ofNat_Int, Nat.reduceEqDiff, reduceIte, Nat.reduceAdd, Nat.reduceMul, Nat.reduceLeDiff, Nat.reduceSub, Nat.reduceLT, Nat.zero_lt_succ, Int.reduceToNat, Int.reduceAdd, Int.reduceSub, Int.reduceMul, Int.reduceNeg, Int.reduceLT, Int.reduceLE, Int.reduceEq, Int.reduceBEq, Int.reduceBNe, Nat.reduceBEq, List.reduceReplicate, con10_f, con15_f, con10_c, ap_0, ap_2, ap_5, ap_6, ap_8, ap_9, ap_10, ap_11, ap_12, ap_13, ap_14, ap_15, v1, v2, v3, c1, c2, c3, c4, c5, c6, c7, c8, z1, z2, z3, z4, z5, z6, tru_t, tru_f, beq_self_eq_true, pickB])
      | (with_reducible exact kp_nil)
      | (with_reducible exact Kp.refl _)
      | (with_reducible exact kp_to)
      | (with_reducible refine kp_cons ?_)
      | (with_reducible refine kp_arr ?_)
      | (with_reducible refine kp_app ?_)
      | ((with_reducible refine t_cond fun A B => ?_); simp only [go_sem, Int.cast_ofNat_Int, Nat.reduceEqDiff, reduceIte, Nat.reduceAdd, Nat.reduceMul, Nat.reduceLeDiff, Nat.reduceSub, Nat.reduceLT, Nat.zero_lt_succ, Int.reduceToNat, Int.reduceAdd, Int.reduceSub, Int.reduceMul, Int.reduceNeg, Int.reduceLT, Int.reduceLE, Int.reduceEq, Int.reduceBEq, Int.reduceBNe, Nat.reduceBEq, List.reduceReplicate, con10_f, con15_f, con10_c, ap_0, ap_2, ap_5, ap_6, ap_8, ap_9, ap_10, ap_11, ap_12, ap_13, ap_14, ap_15, v1, v2, v3, c1, c2, c3, c4, c5, c6, c7, c8, z1, z2, z3, z4, z5, z6, tru_t, tru_f, beq_self_eq_true, pickB]; first | (with_reducible refine A.h ?_) | (with_reducible refine B.h ?_) | refine And.intro (fun hc => A.h ?_) (fun hc => B.h ?_))
      | simp only [thenQ_n, thenQ_r, thenQ_e, blockQ_n, blockQ_r, blockQ_e, scopeQ_n, scopeQ_r, scopeQ_e, Nat.reduceEqDiff, reduceIte]
      | (with_reducible refine And.intro ?_ ?_)
      | with_reducible intro vr)
    all_goals try (intros; (try simp only [Bool.and_eq_true, Bool.or_eq_true, Bool.not_eq_true', decide_eq_true_eq, decide_eq_false_iff_not, beq_iff_eq, bne_iff_ne, ne_eq, inI64, List.length_append] at *) <;> omega)
    all_goals try (intros; first | assumption | (refine ⟨?_, ?_⟩ <;> assumption))
    refine end_ret rfl ?_
    simp only [fin, go_sem, Int.cast_ofNat_Int, Nat.reduceEqDiff, reduceIte, Nat.reduceAdd, Nat.reduceMul, Nat.reduceLeDiff, Nat.reduceSub, Nat.reduceLT, Nat.zero_lt_succ, Int.reduceToNat, Int.reduceAdd, Int.reduceSub, Int.reduceMul, Int.reduceNeg, Int.reduceLT, Int.reduceLE, Int.reduceEq, Int.reduceBEq, Int.reduceBNe, Nat.reduceBEq, List.reduceReplicate, beq_self_eq_true]
    exact LeA.refl _
theorem order_law : ∀ xs, ShL Try.prog Try.f6.params.toList xs → PC Try.prog 6 xs (.lit (.bool true))
  | [x, y, z], h => by
    obtain ⟨a, rfl, ha⟩ := shv_int u21 h.1
    obtain ⟨b, rfl, hb⟩ := shv_int u21 h.2.1
    obtain ⟨c, rfl, hc⟩ := shv_int u21 h.2.2.1
    exact order_pc (by have := wf_i32 ha; unfold el; omega) (by have := wf_i32 hb; unfold el; omega) (by have := wf_i32 hc; unfold el; omega)
  | [], h => h.elim
  | [_], h => h.2.elim
  | [_, _], h => h.2.2.elim
  | _ :: _ :: _ :: _ :: _, h => h.2.2.2.elim
end Go.Proofs.Ytbmogpafhdbfdaa

/- ElementOrder returns true for any three 32-bit numbers. -/
namespace Go.Proofs.Ytbmogpafhdbfdaa.elementOrder
open Go.ChangeShapes Go.WideShapes Go.ChangeAt Go.RowKit Go.Fw

theorem own : ownKnob Try.prog.godebug = none := by kernel_rfl
set_option maxRecDepth 100000 in
theorem lifted (os : Os) (started : os.Started) (H : Type) (enc : TypeId × Value → H) :
    ReturnsInHanded {} Try.checked os 6 .any (Rows.elementOrderSpec.pre6 enc Try.prog Try.f6 Rows.elementOrderRow.domain false) (Rows.elementOrderSpec.post enc Try.prog Try.f6 false true false false) := by
  refine returnsInHanded_of_change (C := Try.checked) own started (by kernel_rfl) Try.func6
    (ChangeSpec.witness6 (enc := enc) (C := Try.checked) false ⟨#[], #[.int .i32 0, .int .i32 0, .int .i32 0], []⟩ 8 (by kernel_rfl) (by kernel_rfl) (by kernel_rfl) (by kernel_rfl)) ?_
  intro W base args ds gs before hval hW hcnd _
  exact law_body (m := 9) order_law (by kernel_rfl) (by kernel_rfl) rfl (by kernel_rfl) (fun ds h => by match ds, h with | [_, _, _], _ => rfl) rfl (by kernel_rfl) hval hW

theorem over : Rows.elementOrderRow.holds Try.pinned (OpenSpec.ofChange Rows.elementOrderSpec) :=
  OpenClaim.holds_of_wide 6 Try.f6 rfl rfl rfl rfl rfl rfl rfl ⟨rfl, rfl, rfl, rfl, rfl⟩ rfl rfl rfl rfl rfl (by kernel_rfl) Try.func6 (by kernel_rfl)
    (of_decide_eq_true (by kernel_rfl)) (by unfold Func.isWrapper; first | (rw [if_pos (by decide +kernel)]; kernel_rfl) | (rw [if_neg (by decide +kernel)]; exact ⟨rfl, rfl⟩))
    (fun os started H enc _ => lifted os started H enc)

theorem proved : Rows.ElementOrderSaid :=
  over
#print axioms proved
end Go.Proofs.Ytbmogpafhdbfdaa.elementOrder
