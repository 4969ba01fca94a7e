/- Wrapping; a ring; division. -/
import Derived.Test.YtbmogpafhdbfdaaEE
import Derived.Test.YtbmogpafhdbfdaaFwB

set_option linter.all false

namespace Go.Proofs.Ytbmogpafhdbfdaa
open Go Go.Fw

noncomputable def E11 : Env := envOf (P := Try.prog) zer (fun _ => false) (fun _ => false) [con10, con14, con15, con16, con18, con19] []
theorem E11_ok : EnvOk Try.prog E11 := envOk zer_ok
theorem wrap_law_pc {n k : Int} (hn : inI64 n) (hk : -32768 ≤ k ∧ k < 32768) : PC Try.prog 8 [.lit (.int .i64 n), .lit (.int .i16 k)] (.lit (.bool true)) := by
  have e1 : vld ⟨#[105, 110, 116]⟩ (w32 n) = true := vld_int.2 (w32_el n)
  have e2 : w32 (w32 n) = w32 n := w32_id (w32_el n)
  have e3 : shlI .i64 k 32 = k * 4294967296 := by
    have e : k * 2 ^ (min (32 : Int).toNat (IntKind.bits .i64)) = k * 4294967296 := by
      have : (2 : Int) ^ (min (32 : Int).toNat (IntKind.bits .i64)) = 4294967296 := by decide
      rw [this]
    unfold shlI
    rw [e]
    exact wrap_i64 (by unfold inI64; omega)
  have e4 : IntKind.i64.wrap k = k := wrap_i64 (by unfold inI64; omega)
  have e5 : w32 (w32 n + k * 4294967296) = w32 n := by rw [w32_eq, w32_eq]; omega
  have hb := w32_el n
  unfold el at hb
  by_cases hv : el n
  · have e6 : vld ⟨#[105, 110, 116]⟩ n = true := vld_int.2 hv
    have e7 : w32 n = n := w32_id hv
    rw [e7] at e5
    have hb' := hv
    unfold el at hb'
    refine pc_of E11_ok mixed (fun _ => [0, 1, 4, 5, 7]) Try.func8 rfl (by kernel_rfl) (Nat.le_of_ble_eq_true rfl) ?_
    simp only [initF_cons, initF_nil, Nat.reduceAdd]
    refine t_name fun KF => ?_
    unfold E11
    repeat' (first
      | with_reducible refine t_seq fun K => ?_
      | with_reducible refine t_block ?_
      | with_reducible refine t_scope ?_
      | with_reducible refine t_label ?_
      | with_reducible refine t_skip ?_
      | with_reducible refine t_exit ?_
      | with_reducible refine t_ret ?_
      | with_reducible refine t_k ?_
      | (with_reducible refine t_gF ?_)
      | ((first | with_reducible refine t_kE ?_ | with_reducible refine t_kD ?_ | with_reducible refine t_gS ?_ | with_reducible refine t_kL ?_ | (with_reducible refine t_kLE ?_ ?_; rotate_left) | with_reducible refine t_region fun K => ?_ | with_reducible refine t_draw (by kernel_rfl) fun K => ?_); simp only [go_sem, Int.cast_ofNat_Int, Nat.reduceEqDiff, reduceIte, Nat.reduceAdd, Nat.reduceMul, Nat.reduceLeDiff, Nat.reduceSub, Nat.reduceLT, Nat.zero_lt_succ, Int.reduceToNat, Int.reduceAdd, Int.reduceSub, Int.reduceMul, Int.reduceNeg, Int.reduceLT, Int.reduceLE, Int.reduceEq, Int.reduceBEq, Int.reduceBNe, Nat.reduceBEq, List.reduceReplicate, con10_f, con14_f, con15_f, con16_f, con18_f, con19_f, con10_c, con14_c, con16_c, con18_c, con19_c, e3, e4, e5, e6, e7, beq_self_eq_true, pickB])
      | (with_reducible exact kp_nil)
      | (with_reducible exact Kp.refl _)
      | (with_reducible exact kp_to)
      | (with_reducible refine kp_cons ?_)
      | (with_reducible refine kp_arr ?_)
      | (with_reducible refine kp_app ?_)
      | ((with_reducible refine t_cond fun A B => ?_); simp only [go_sem, Int.cast_ofNat_Int, Nat.reduceEqDiff, reduceIte, Nat.reduceAdd, Nat.reduceMul, Nat.reduceLeDiff, Nat.reduceSub, Nat.reduceLT, Nat.zero_lt_succ, Int.reduceToNat, Int.reduceAdd, Int.reduceSub, Int.reduceMul, Int.reduceNeg, Int.reduceLT, Int.reduceLE, Int.reduceEq, Int.reduceBEq, Int.reduceBNe, Nat.reduceBEq, List.reduceReplicate, con10_f, con14_f, con15_f, con16_f, con18_f, con19_f, con10_c, con14_c, con16_c, con18_c, con19_c, e3, e4, e5, e6, e7, beq_self_eq_true, pickB]; first | (with_reducible refine A.h ?_) | (with_reducible refine B.h ?_) | refine And.intro (fun hc => A.h ?_) (fun hc => B.h ?_))
      | simp only [thenQ_n, thenQ_r, thenQ_e, blockQ_n, blockQ_r, blockQ_e, scopeQ_n, scopeQ_r, scopeQ_e, Nat.reduceEqDiff, reduceIte]
      | (with_reducible refine And.intro ?_ ?_)
      | with_reducible intro vr)
    all_goals try (intros; (try simp only [Bool.and_eq_true, Bool.or_eq_true, Bool.not_eq_true', decide_eq_true_eq, decide_eq_false_iff_not, beq_iff_eq, bne_iff_ne, ne_eq, inI64, List.length_append] at *) <;> omega)
    refine end_ret rfl ?_
    simp only [fin, go_sem, Int.cast_ofNat_Int, Nat.reduceEqDiff, reduceIte, Nat.reduceAdd, Nat.reduceMul, Nat.reduceLeDiff, Nat.reduceSub, Nat.reduceLT, Nat.zero_lt_succ, Int.reduceToNat, Int.reduceAdd, Int.reduceSub, Int.reduceMul, Int.reduceNeg, Int.reduceLT, Int.reduceLE, Int.reduceEq, Int.reduceBEq, Int.reduceBNe, Nat.reduceBEq, List.reduceReplicate, beq_self_eq_true]
    exact LeA.refl _
  · have e6 : vld ⟨#[105, 110, 116]⟩ n = false := Bool.eq_false_iff.2 fun h => hv (vld_int.1 h)
    refine pc_of E11_ok mixed (fun _ => [0, 1, 4, 5, 7]) Try.func8 rfl (by kernel_rfl) (Nat.le_of_ble_eq_true rfl) ?_
    simp only [initF_cons, initF_nil, Nat.reduceAdd]
    refine t_name fun KF => ?_
    unfold E11
    repeat' (first
      | with_reducible refine t_seq fun K => ?_
      | with_reducible refine t_block ?_
      | with_reducible refine t_scope ?_
      | with_reducible refine t_label ?_
      | with_reducible refine t_skip ?_
      | with_reducible refine t_exit ?_
      | with_reducible refine t_ret ?_
      | with_reducible refine t_k ?_
      | (with_reducible refine t_gF ?_)
      | ((first | with_reducible refine t_kE ?_ | with_reducible refine t_kD ?_ | with_reducible refine t_gS ?_ | with_reducible refine t_kL ?_ | (with_reducible refine t_kLE ?_ ?_; rotate_left) | with_reducible refine t_region fun K => ?_ | with_reducible refine t_draw (by kernel_rfl) fun K => ?_); simp only [go_sem, Int.cast_ofNat_Int, Nat.reduceEqDiff, reduceIte, Nat.reduceAdd, Nat.reduceMul, Nat.reduceLeDiff, Nat.reduceSub, Nat.reduceLT, Nat.zero_lt_succ, Int.reduceToNat, Int.reduceAdd, Int.reduceSub, Int.reduceMul, Int.reduceNeg, Int.reduceLT, Int.reduceLE, Int.reduceEq, Int.reduceBEq, Int.reduceBNe, Nat.reduceBEq, List.reduceReplicate, con10_f, con14_f, con15_f, con16_f, con18_f, con19_f, con10_c, con14_c, con16_c, con18_c, con19_c, e1, e2, e3, e4, e5, e6, beq_self_eq_true, pickB])
      | (with_reducible exact kp_nil)
      | (with_reducible exact Kp.refl _)
      | (with_reducible exact kp_to)
      | (with_reducible refine kp_cons ?_)
      | (with_reducible refine kp_arr ?_)
      | (with_reducible refine kp_app ?_)
      | ((with_reducible refine t_cond fun A B => ?_); simp only [go_sem, Int.cast_ofNat_Int, Nat.reduceEqDiff, reduceIte, Nat.reduceAdd, Nat.reduceMul, Nat.reduceLeDiff, Nat.reduceSub, Nat.reduceLT, Nat.zero_lt_succ, Int.reduceToNat, Int.reduceAdd, Int.reduceSub, Int.reduceMul, Int.reduceNeg, Int.reduceLT, Int.reduceLE, Int.reduceEq, Int.reduceBEq, Int.reduceBNe, Nat.reduceBEq, List.reduceReplicate, con10_f, con14_f, con15_f, con16_f, con18_f, con19_f, con10_c, con14_c, con16_c, con18_c, con19_c, e1, e2, e3, e4, e5, e6, beq_self_eq_true, pickB]; first | (with_reducible refine A.h ?_) | (with_reducible refine B.h ?_) | refine And.intro (fun hc => A.h ?_) (fun hc => B.h ?_))
      | simp only [thenQ_n, thenQ_r, thenQ_e, blockQ_n, blockQ_r, blockQ_e, scopeQ_n, scopeQ_r, scopeQ_e, Nat.reduceEqDiff, reduceIte]
      | (with_reducible refine And.intro ?_ ?_)
      | with_reducible intro vr)
    all_goals try (intros; (try simp only [Bool.and_eq_true, Bool.or_eq_true, Bool.not_eq_true', decide_eq_true_eq, decide_eq_false_iff_not, beq_iff_eq, bne_iff_ne, ne_eq, inI64, List.length_append] at *) <;> omega)
    refine end_ret rfl ?_
    simp only [fin, go_sem, Int.cast_ofNat_Int, Nat.reduceEqDiff, reduceIte, Nat.reduceAdd, Nat.reduceMul, Nat.reduceLeDiff, Nat.reduceSub, Nat.reduceLT, Nat.zero_lt_succ, Int.reduceToNat, Int.reduceAdd, Int.reduceSub, Int.reduceMul, Int.reduceNeg, Int.reduceLT, Int.reduceLE, Int.reduceEq, Int.reduceBEq, Int.reduceBNe, Nat.reduceBEq, List.reduceReplicate, beq_self_eq_true]
    exact LeA.refl _
theorem wrap_law : ∀ xs, ShL Try.prog Try.f8.params.toList xs → PC Try.prog 8 xs (.lit (.bool true))
  | [x, y], h => by
    obtain ⟨n, rfl, hn⟩ := shv_int u3 h.1
    obtain ⟨k, rfl, hk⟩ := shv_int u39 h.2.1
    exact wrap_law_pc (wf_i64 hn) (wf_i16 hk)
  | [], h => h.elim
  | [_], h => h.2.elim
  | _ :: _ :: _ :: _, h => h.2.2.elim

/-! ### A ring -/
theorem w32_add_r (x y : Int) : w32 (x + w32 y) = w32 (x + y) := by rw [w32_eq, w32_eq y, w32_eq]; omega
theorem w32_add_l (x y : Int) : w32 (w32 x + y) = w32 (x + y) := by rw [w32_eq, w32_eq x, w32_eq]; omega
theorem w32_k (n k : Int) : w32 (n + k * 4294967296) = w32 n := by rw [w32_eq, w32_eq]; omega
theorem w32_ex (n : Int) : ∃ k, w32 n = n + k * 4294967296 := ⟨-((n + 2147483648) / 4294967296), by rw [w32_eq]; omega⟩
theorem w32_mul_r (x y : Int) : w32 (x * w32 y) = w32 (x * y) := by
  obtain ⟨k, hk⟩ := w32_ex y
  rw [hk, Int.mul_add, ← Int.mul_assoc, w32_k]
theorem w32_mul_l (x y : Int) : w32 (w32 x * y) = w32 (x * y) := by
  rw [Int.mul_comm, w32_mul_r, Int.mul_comm]
noncomputable def E12 : Env := envOf (P := Try.prog) zer (fun _ => false) (fun _ => false) [con10, con15, con16] []
theorem E12_ok : EnvOk Try.prog E12 := envOk zer_ok
theorem wrap_el {n : Int} (h : el n) : IntKind.i64.wrap n = n := wrap_i64 (el_i64 h)
set_option maxHeartbeats 2000000 in
set_option maxRecDepth 20000 in
theorem ring_pc {a b c : Int} (ha : el a) (hb : el b) (hc : el c) : PC Try.prog 4 [.lit (.int .i32 a), .lit (.int .i32 b), .lit (.int .i32 c)] (.lit (.bool true)) := by
  have v1 := wrap_el ha
  have v2 := wrap_el hb
  have v3 := wrap_el hc
  have c1 : w32 (b + a) = w32 (a + b) := by rw [Int.add_comm]
  have c2 : w32 (b * a) = w32 (a * b) := by rw [Int.mul_comm]
  have c3 : w32 (a + w32 (b + c)) = w32 (w32 (a + b) + c) := by rw [w32_add_r, w32_add_l, Int.add_assoc]
  have c4 : w32 (a * w32 (b * c)) = w32 (w32 (a * b) * c) := by rw [w32_mul_r, w32_mul_l, Int.mul_assoc]
  have c5 : w32 (w32 (a * b) + w32 (a * c)) = w32 (a * w32 (b + c)) := by rw [w32_add_r, w32_add_l, w32_mul_r, Int.mul_add]
  have c6 : w32 (a + w32 (0 - b)) = w32 (a - b) := by rw [w32_add_r]; congr 1; omega
  have hm := mul_bd ha hb
  have ha' := ha
  have hb' := hb
  unfold el at ha' hb'
  refine pc_of E12_ok mixed (fun _ => [0, 1, 2, 6, 7, 8, 9, 10, 11, 13]) Try.func4 rfl (by kernel_rfl) (Nat.le_of_ble_eq_true rfl) ?_
  simp only [initF_cons, initF_nil, Nat.reduceAdd]
  refine t_name fun KF => ?_
  unfold E12
  repeat' (first
    | with_reducible refine t_seq fun K => ?_
    | with_reducible refine t_block ?_
    | with_reducible refine t_scope ?_
    | with_reducible refine t_label ?_
    | with_reducible refine t_skip ?_
    | with_reducible refine t_exit ?_
    | with_reducible refine t_ret ?_
    | with_reducible refine t_k ?_
    | (with_reducible refine t_gF ?_)
    | ((first | with_reducible refine t_kE ?_ | with_reducible refine t_kD ?_ | with_reducible refine t_gS ?_ | with_reducible refine t_kL ?_ | (with_reducible refine t_kLE ?_ ?_; rotate_left) | with_reducible refine t_region fun K => ?_ | with_reducible refine t_draw (by kernel_rfl) fun K => ?_); simp only [go_sem, Int.cast_ofNat_Int, Nat.reduceEqDiff, reduceIte, Nat.reduceAdd, Nat.reduceMul, Nat.reduceLeDiff, Nat.reduceSub, Nat.reduceLT, Nat.zero_lt_succ, Int.reduceToNat, Int.reduceAdd, Int.reduceSub, Int.reduceMul, Int.reduceNeg, Int.reduceLT, Int.reduceLE, Int.reduceEq, Int.reduceBEq, Int.reduceBNe, Nat.reduceBEq, List.reduceReplicate, con10_f, con15_f, con16_f, con10_c, con16_c, ap_0, ap_1, ap_2, ap_7, v1, v2, v3, c1, c2, c3, c4, c5, c6, beq_self_eq_true, pickB])
    | (with_reducible exact kp_nil)
    | (with_reducible exact Kp.refl _)
    | (with_reducible exact kp_to)
    | (with_reducible refine kp_cons ?_)
    | (with_reducible refine kp_arr ?_)
    | (with_reducible refine kp_app ?_)
    | ((with_reducible refine t_cond fun A B => ?_); simp only [go_sem, Int.cast_ofNat_Int, Nat.reduceEqDiff, reduceIte, Nat.reduceAdd, Nat.reduceMul, Nat.reduceLeDiff, Nat.reduceSub, Nat.reduceLT, Nat.zero_lt_succ, Int.reduceToNat, Int.reduceAdd, Int.reduceSub, Int.reduceMul, Int.reduceNeg, Int.reduceLT, Int.reduceLE, Int.reduceEq, Int.reduceBEq, Int.reduceBNe, Nat.reduceBEq, List.reduceReplicate, con10_f, con15_f, con16_f, con10_c, con16_c, ap_0, ap_1, ap_2, ap_7, v1, v2, v3, c1, c2, c3, c4, c5, c6, beq_self_eq_true, pickB]; first | (with_reducible refine A.h ?_) | (with_reducible refine B.h ?_) | refine And.intro (fun hc => A.h ?_) (fun hc => B.h ?_))
    | simp only [thenQ_n, thenQ_r, thenQ_e, blockQ_n, blockQ_r, blockQ_e, scopeQ_n, scopeQ_r, scopeQ_e, Nat.reduceEqDiff, reduceIte]
    | (with_reducible refine And.intro ?_ ?_)
    | with_reducible intro vr)
  all_goals try (intros; (try simp only [Bool.and_eq_true, Bool.or_eq_true, Bool.not_eq_true', decide_eq_true_eq, decide_eq_false_iff_not, beq_iff_eq, bne_iff_ne, ne_eq, inI64, List.length_append] at *) <;> omega)
  all_goals try (intros; first | assumption | exact w32_el _ | (refine ⟨?_, ?_⟩ <;> first | assumption | exact w32_el _))
  refine end_ret rfl ?_
  simp only [fin, go_sem, Int.cast_ofNat_Int, Nat.reduceEqDiff, reduceIte, Nat.reduceAdd, Nat.reduceMul, Nat.reduceLeDiff, Nat.reduceSub, Nat.reduceLT, Nat.zero_lt_succ, Int.reduceToNat, Int.reduceAdd, Int.reduceSub, Int.reduceMul, Int.reduceNeg, Int.reduceLT, Int.reduceLE, Int.reduceEq, Int.reduceBEq, Int.reduceBNe, Nat.reduceBEq, List.reduceReplicate, beq_self_eq_true]
  exact LeA.refl _
theorem ring_law : ∀ xs, ShL Try.prog Try.f4.params.toList xs → PC Try.prog 4 xs (.lit (.bool true))
  | [x, y, z], h => by
    obtain ⟨a, rfl, ha⟩ := shv_int u21 h.1
    obtain ⟨b, rfl, hb⟩ := shv_int u21 h.2.1
    obtain ⟨c, rfl, hc⟩ := shv_int u21 h.2.2.1
    exact ring_pc (by have := wf_i32 ha; unfold el; omega) (by have := wf_i32 hb; unfold el; omega) (by have := wf_i32 hc; unfold el; omega)
  | [], h => h.elim
  | [_], h => h.2.elim
  | [_, _], h => h.2.2.elim
  | _ :: _ :: _ :: _ :: _, h => h.2.2.2.elim
end Go.Proofs.Ytbmogpafhdbfdaa
