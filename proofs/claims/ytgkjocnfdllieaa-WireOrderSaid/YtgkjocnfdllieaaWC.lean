/- The examples, and the law of the order. -/
import Derived.Test.YtgkjocnfdllieaaWB
import Derived.Test.YtgkjocnfdllieaaWA

set_option linter.all false

namespace Go.Proofs.Ytgkjocnfdllieaa
open Go Go.Fw

noncomputable def sizeCon : PCon Try.prog where
  f := 16
  c := fun
    | [.lit (.int .i64 n)] => some (inI64 n, .lit (.int .i64 ((enc n).length : Int)))
    | _ => none
  ok := by
    intro args p r hc hp
    split at hc
    · cases hc; exact size_pc hp
    · cases hc
  fk := fk16
theorem sizeCon_f : sizeCon.f = 16 := rfl
theorem sizeCon_c {n : Int} : sizeCon.c [.lit (.int .i64 n)] = some (inI64 n, .lit (.int .i64 ((enc n).length : Int))) := rfl
theorem eqS_refl (b : ByteArray) : eqS b b = true := by simp [eqS]
noncomputable def E13 : Env := envOf (P := Try.prog) zer (fun _ => false) (fun d => d == 24 || d == 28) [con12, con13, sizeCon] [srcintCon, endCon]
theorem E13_ok : EnvOk Try.prog E13 := envOk zer_ok
set_option maxHeartbeats 4000000 in
theorem awake_pc : PC Try.prog 10 [] (.lit (.bool true)) := by
  have e1 : enc 5 = [133] := by decide
  have e2 : enc 120 = [248, 0] := by decide
  have e3 : enc 400 = [249, 1, 24] := by decide
  have e4 : enc (-121) = [7, 255] := by decide
  have e5 : numS [249, 1, 24] 0 0 500 2 = (400, [], 0) := by decide
  have e6 : okL [249, 1, 24] := ⟨by decide, by decide⟩
  refine pc_of E13_ok mixed (fun _ => [0, 1]) Try.func10 rfl (by kernel_rfl) (Nat.le_of_ble_eq_true rfl) ?_
  simp only [initF_cons, initF_nil, Nat.reduceAdd]
  refine t_name fun KF => ?_
  unfold E13
  repeat' (first
    | with_reducible refine t_seq fun K => ?_
    | with_reducible refine t_block ?_
    | with_reducible refine t_scope ?_
    | with_reducible refine t_label ?_
    | with_reducible refine t_skip ?_
    | with_reducible refine t_exit ?_
    | with_reducible refine t_ret ?_
    | with_reducible refine t_k ?_
    | ((with_reducible refine t_kE ?_); simp only [go_sem, Int.cast_ofNat_Int, Nat.reduceEqDiff, reduceIte, Nat.reduceAdd, Nat.reduceMul, Nat.reduceLeDiff, Nat.reduceSub, Nat.reduceLT, Nat.zero_lt_succ, Int.reduceToNat, Int.reduceAdd, Int.reduceSub, Int.reduceMul, Int.reduceNeg, Int.reduceLT, Int.reduceLE, Int.reduceEq, Int.reduceBEq, Int.reduceBNe, Nat.reduceBEq, List.reduceReplicate, con12_f, con12_c, con13_f, con13_c, sizeCon_f, sizeCon_c, srcintCon_f, srcintCon_c, endCon_f, endCon_c, srcAt, e1, e2, e3, e4, e5, e6, eqS_refl, src])
    | ((with_reducible refine t_kD ?_); simp only [go_sem, Int.cast_ofNat_Int, Nat.reduceEqDiff, reduceIte, Nat.reduceAdd, Nat.reduceMul, Nat.reduceLeDiff, Nat.reduceSub, Nat.reduceLT, Nat.zero_lt_succ, Int.reduceToNat, Int.reduceAdd, Int.reduceSub, Int.reduceMul, Int.reduceNeg, Int.reduceLT, Int.reduceLE, Int.reduceEq, Int.reduceBEq, Int.reduceBNe, Nat.reduceBEq, List.reduceReplicate, con12_f, con12_c, con13_f, con13_c, sizeCon_f, sizeCon_c, srcintCon_f, srcintCon_c, endCon_f, endCon_c, srcAt, e1, e2, e3, e4, e5, e6, eqS_refl, src])
    | ((with_reducible refine t_kL ?_); simp only [go_sem, Int.cast_ofNat_Int, Nat.reduceEqDiff, reduceIte, Nat.reduceAdd, Nat.reduceMul, Nat.reduceLeDiff, Nat.reduceSub, Nat.reduceLT, Nat.zero_lt_succ, Int.reduceToNat, Int.reduceAdd, Int.reduceSub, Int.reduceMul, Int.reduceNeg, Int.reduceLT, Int.reduceLE, Int.reduceEq, Int.reduceBEq, Int.reduceBNe, Nat.reduceBEq, List.reduceReplicate, con12_f, con12_c, con13_f, con13_c, sizeCon_f, sizeCon_c, srcintCon_f, srcintCon_c, endCon_f, endCon_c, srcAt, e1, e2, e3, e4, e5, e6, eqS_refl, src])
    | ((with_reducible refine t_kLE ?_ ?_; rotate_left); simp only [go_sem, Int.cast_ofNat_Int, Nat.reduceEqDiff, reduceIte, Nat.reduceAdd, Nat.reduceMul, Nat.reduceLeDiff, Nat.reduceSub, Nat.reduceLT, Nat.zero_lt_succ, Int.reduceToNat, Int.reduceAdd, Int.reduceSub, Int.reduceMul, Int.reduceNeg, Int.reduceLT, Int.reduceLE, Int.reduceEq, Int.reduceBEq, Int.reduceBNe, Nat.reduceBEq, List.reduceReplicate, con12_f, con12_c, con13_f, con13_c, sizeCon_f, sizeCon_c, srcintCon_f, srcintCon_c, endCon_f, endCon_c, srcAt, e1, e2, e3, e4, e5, e6, eqS_refl, src])
    | (with_reducible exact kp_nil)
    | (with_reducible exact Kp.refl _)
    | (with_reducible exact kp_to)
    | (with_reducible refine kp_cons ?_)
    | (with_reducible refine kp_arr ?_)
    | (with_reducible refine kp_app ?_)
    | ((with_reducible refine t_region fun K => ?_); simp only [go_sem, Int.cast_ofNat_Int, Nat.reduceEqDiff, reduceIte, Nat.reduceAdd, Nat.reduceMul, Nat.reduceLeDiff, Nat.reduceSub, Nat.reduceLT, Nat.zero_lt_succ, Int.reduceToNat, Int.reduceAdd, Int.reduceSub, Int.reduceMul, Int.reduceNeg, Int.reduceLT, Int.reduceLE, Int.reduceEq, Int.reduceBEq, Int.reduceBNe, Nat.reduceBEq, List.reduceReplicate, con12_f, con12_c, con13_f, con13_c, sizeCon_f, sizeCon_c, srcintCon_f, srcintCon_c, endCon_f, endCon_c, srcAt, e1, e2, e3, e4, e5, e6, eqS_refl, src])
    | ((with_reducible refine t_draw (by kernel_rfl) fun K => ?_); simp only [go_sem, Int.cast_ofNat_Int, Nat.reduceEqDiff, reduceIte, Nat.reduceAdd, Nat.reduceMul, Nat.reduceLeDiff, Nat.reduceSub, Nat.reduceLT, Nat.zero_lt_succ, Int.reduceToNat, Int.reduceAdd, Int.reduceSub, Int.reduceMul, Int.reduceNeg, Int.reduceLT, Int.reduceLE, Int.reduceEq, Int.reduceBEq, Int.reduceBNe, Nat.reduceBEq, List.reduceReplicate, con12_f, con12_c, con13_f, con13_c, sizeCon_f, sizeCon_c, srcintCon_f, srcintCon_c, endCon_f, endCon_c, srcAt, e1, e2, e3, e4, e5, e6, eqS_refl, src])
    | ((with_reducible refine t_cond fun A B => ?_); simp only [go_sem, Int.cast_ofNat_Int, Nat.reduceEqDiff, reduceIte, Nat.reduceAdd, Nat.reduceMul, Nat.reduceLeDiff, Nat.reduceSub, Nat.reduceLT, Nat.zero_lt_succ, Int.reduceToNat, Int.reduceAdd, Int.reduceSub, Int.reduceMul, Int.reduceNeg, Int.reduceLT, Int.reduceLE, Int.reduceEq, Int.reduceBEq, Int.reduceBNe, Nat.reduceBEq, List.reduceReplicate, con12_f, con12_c, con13_f, con13_c, sizeCon_f, sizeCon_c, srcintCon_f, srcintCon_c, endCon_f, endCon_c, srcAt, e1, e2, e3, e4, e5, e6, eqS_refl, src]; first | (with_reducible refine A.h ?_) | (with_reducible refine B.h ?_) | refine And.intro (fun hc => A.h ?_) (fun hc => B.h ?_))
    | simp only [thenQ_n, thenQ_r, thenQ_e, blockQ_n, blockQ_r, blockQ_e, scopeQ_n, scopeQ_r, scopeQ_e, Nat.reduceEqDiff, reduceIte]
    | (with_reducible refine And.intro ?_ ?_)
    | with_reducible intro vr)
  all_goals try (intros; (try simp only [Bool.and_eq_true, Bool.or_eq_true, Bool.not_eq_true', decide_eq_true_eq, decide_eq_false_iff_not, beq_iff_eq, bne_iff_ne, ne_eq, inI64, List.length_append] at *) <;> omega)
  refine end_ret rfl ?_
  simp only [fin, go_sem, Int.cast_ofNat_Int, Nat.reduceEqDiff, reduceIte, Nat.reduceAdd, Nat.reduceMul, Nat.reduceLeDiff, Nat.reduceSub, Nat.reduceLT, Nat.zero_lt_succ, Int.reduceToNat, Int.reduceAdd, Int.reduceSub, Int.reduceMul, Int.reduceNeg, Int.reduceLT, Int.reduceLE, Int.reduceEq, Int.reduceBEq, Int.reduceBNe, Nat.reduceBEq, List.reduceReplicate]
  exact LeA.refl _
noncomputable def awakeCon : PCon Try.prog where
  f := 10
  c := fun
    | [] => some (True, .lit (.bool true))
    | _ => none
  ok := by
    intro args p r hc hp
    split at hc
    · cases hc; exact awake_pc
    · cases hc
  fk := fk10
theorem awakeCon_f : awakeCon.f = 10 := rfl
theorem awakeCon_c : awakeCon.c [] = some (True, .lit (.bool true)) := rfl
noncomputable def E14 : Env := envOf (P := Try.prog) zer (fun _ => false) (fun _ => false) [awakeCon, con13] []
theorem E14_ok : EnvOk Try.prog E14 := envOk zer_ok
set_option maxHeartbeats 1000000 in
theorem order_pc {a b : Int} (ha : inI64 a) (hb : inI64 b) : PC Try.prog 4 [.lit (.int .i64 a), .lit (.int .i64 b)] (.lit (.bool true)) := by
  refine pc_of E14_ok mixed (fun _ => [0, 1, 4, 5, 6, 7, 9, 18]) Try.func4 rfl (by kernel_rfl) (Nat.le_of_ble_eq_true rfl) ?_
  simp only [initF_cons, initF_nil, Nat.reduceAdd]
  refine t_name fun KF => ?_
  unfold E14
  repeat' (first
    | with_reducible refine t_seq fun K => ?_
    | with_reducible refine t_block ?_
    | with_reducible refine t_scope ?_
    | with_reducible refine t_label ?_
    | with_reducible refine t_skip ?_
    | with_reducible refine t_exit ?_
    | with_reducible refine t_ret ?_
    | with_reducible refine t_k ?_
    | ((with_reducible refine t_kE ?_); simp only [go_sem, Int.cast_ofNat_Int, Nat.reduceEqDiff, reduceIte, Nat.reduceAdd, Nat.reduceMul, Nat.reduceLeDiff, Nat.reduceSub, Nat.reduceLT, Nat.zero_lt_succ, Int.reduceToNat, Int.reduceAdd, Int.reduceSub, Int.reduceMul, Int.reduceNeg, Int.reduceLT, Int.reduceLE, Int.reduceEq, Int.reduceBEq, Int.reduceBNe, Nat.reduceBEq, List.reduceReplicate, awakeCon_f, awakeCon_c, con13_f, con13_c])
    | ((with_reducible refine t_kD ?_); simp only [go_sem, Int.cast_ofNat_Int, Nat.reduceEqDiff, reduceIte, Nat.reduceAdd, Nat.reduceMul, Nat.reduceLeDiff, Nat.reduceSub, Nat.reduceLT, Nat.zero_lt_succ, Int.reduceToNat, Int.reduceAdd, Int.reduceSub, Int.reduceMul, Int.reduceNeg, Int.reduceLT, Int.reduceLE, Int.reduceEq, Int.reduceBEq, Int.reduceBNe, Nat.reduceBEq, List.reduceReplicate, awakeCon_f, awakeCon_c, con13_f, con13_c])
    | ((with_reducible refine t_kL ?_); simp only [go_sem, Int.cast_ofNat_Int, Nat.reduceEqDiff, reduceIte, Nat.reduceAdd, Nat.reduceMul, Nat.reduceLeDiff, Nat.reduceSub, Nat.reduceLT, Nat.zero_lt_succ, Int.reduceToNat, Int.reduceAdd, Int.reduceSub, Int.reduceMul, Int.reduceNeg, Int.reduceLT, Int.reduceLE, Int.reduceEq, Int.reduceBEq, Int.reduceBNe, Nat.reduceBEq, List.reduceReplicate, awakeCon_f, awakeCon_c, con13_f, con13_c])
    | ((with_reducible refine t_kLE ?_ ?_; rotate_left); simp only [go_sem, Int.cast_ofNat_Int, Nat.reduceEqDiff, reduceIte, Nat.reduceAdd, Nat.reduceMul, Nat.reduceLeDiff, Nat.reduceSub, Nat.reduceLT, Nat.zero_lt_succ, Int.reduceToNat, Int.reduceAdd, Int.reduceSub, Int.reduceMul, Int.reduceNeg, Int.reduceLT, Int.reduceLE, Int.reduceEq, Int.reduceBEq, Int.reduceBNe, Nat.reduceBEq, List.reduceReplicate, awakeCon_f, awakeCon_c, con13_f, con13_c])
    | (with_reducible exact kp_nil)
    | (with_reducible exact Kp.refl _)
    | (with_reducible exact kp_to)
    | (with_reducible refine kp_cons ?_)
    | (with_reducible refine kp_arr ?_)
    | (with_reducible refine kp_app ?_)
    | ((with_reducible refine t_region fun K => ?_); simp only [go_sem, Int.cast_ofNat_Int, Nat.reduceEqDiff, reduceIte, Nat.reduceAdd, Nat.reduceMul, Nat.reduceLeDiff, Nat.reduceSub, Nat.reduceLT, Nat.zero_lt_succ, Int.reduceToNat, Int.reduceAdd, Int.reduceSub, Int.reduceMul, Int.reduceNeg, Int.reduceLT, Int.reduceLE, Int.reduceEq, Int.reduceBEq, Int.reduceBNe, Nat.reduceBEq, List.reduceReplicate, awakeCon_f, awakeCon_c, con13_f, con13_c])
    | ((with_reducible refine t_draw (by kernel_rfl) fun K => ?_); simp only [go_sem, Int.cast_ofNat_Int, Nat.reduceEqDiff, reduceIte, Nat.reduceAdd, Nat.reduceMul, Nat.reduceLeDiff, Nat.reduceSub, Nat.reduceLT, Nat.zero_lt_succ, Int.reduceToNat, Int.reduceAdd, Int.reduceSub, Int.reduceMul, Int.reduceNeg, Int.reduceLT, Int.reduceLE, Int.reduceEq, Int.reduceBEq, Int.reduceBNe, Nat.reduceBEq, List.reduceReplicate, awakeCon_f, awakeCon_c, con13_f, con13_c])
    | ((with_reducible refine t_cond fun A B => ?_); simp only [go_sem, Int.cast_ofNat_Int, Nat.reduceEqDiff, reduceIte, Nat.reduceAdd, Nat.reduceMul, Nat.reduceLeDiff, Nat.reduceSub, Nat.reduceLT, Nat.zero_lt_succ, Int.reduceToNat, Int.reduceAdd, Int.reduceSub, Int.reduceMul, Int.reduceNeg, Int.reduceLT, Int.reduceLE, Int.reduceEq, Int.reduceBEq, Int.reduceBNe, Nat.reduceBEq, List.reduceReplicate, awakeCon_f, awakeCon_c, con13_f, con13_c]; first | (with_reducible refine A.h ?_) | (with_reducible refine B.h ?_) | refine And.intro (fun hc => A.h ?_) (fun hc => B.h ?_))
    | simp only [thenQ_n, thenQ_r, thenQ_e, blockQ_n, blockQ_r, blockQ_e, scopeQ_n, scopeQ_r, scopeQ_e, Nat.reduceEqDiff, reduceIte]
    | (with_reducible refine And.intro ?_ ?_)
    | with_reducible intro vr)
  all_goals try (intros; (try simp only [Bool.and_eq_true, Bool.or_eq_true, Bool.not_eq_true', decide_eq_true_eq, decide_eq_false_iff_not, beq_iff_eq, bne_iff_ne, ne_eq, inI64, List.length_append] at *) <;> omega)
  · simp only [beq_iff_eq] at hc
    subst hc
    have he : eqS (bytesOf (enc a)) { data := #[] } = false := by
      unfold eqS
      rw [bytesOf_list]
      have := enc_len a
      cases he : enc a with
      | nil => rw [he] at this; simp at this
      | cons x l => simp
    refine end_ret rfl ?_
    simp only [fin, go_sem, Int.cast_ofNat_Int, Nat.reduceEqDiff, reduceIte, Nat.reduceAdd, Nat.reduceMul, Nat.reduceLeDiff, Nat.reduceSub, Nat.reduceLT, Nat.zero_lt_succ, Int.reduceToNat, Int.reduceAdd, Int.reduceSub, Int.reduceMul, Int.reduceNeg, Int.reduceLT, Int.reduceLE, Int.reduceEq, Int.reduceBEq, Int.reduceBNe, Nat.reduceBEq, List.reduceReplicate, eqS_refl, he]
    exact LeA.refl _
  all_goals simp only [bytesOf_size]
  · unfold minI; split <;> omega
  · unfold minI; split <;> omega
  · unfold minI; split <;> omega
  · unfold minI; split <;> omega
  · simp only [beq_eq_false_iff_ne, ne_eq] at hc
    have hm : (minI ((enc a).length : Int) ((enc b).length : Int)).toNat = min (enc a).length (enc b).length := by unfold minI; split <;> omega
    have hba := enc_mem a
    have hbb := enc_mem b
    rcases Int.lt_or_lt_of_ne hc with h | h
    · have hd := dlt_str hba hbb (enc_dlt ha hb h)
      have h2 := (hd.2.2 (min (enc a).length (enc b).length) (by omega)).1
      have h1 : decide (a < b) = true := by simpa using h
      refine end_ret rfl ?_
      simp only [fin, go_sem, Int.cast_ofNat_Int, Nat.reduceEqDiff, reduceIte, Nat.reduceAdd, Nat.reduceMul, Nat.reduceLeDiff, Nat.reduceSub, Nat.reduceLT, Nat.zero_lt_succ, Int.reduceToNat, Int.reduceAdd, Int.reduceSub, Int.reduceMul, Int.reduceNeg, Int.reduceLT, Int.reduceLE, Int.reduceEq, Int.reduceBEq, Int.reduceBNe, Nat.reduceBEq, List.reduceReplicate, hm, hd.1, h1, h2]
      exact LeA.refl _
    · have hd := dlt_str hbb hba (enc_dlt hb ha h)
      have h2 := (hd.2.2 (min (enc a).length (enc b).length) (by omega)).2
      have h1 : decide (a < b) = false := by simp; omega
      refine end_ret rfl ?_
      simp only [fin, go_sem, Int.cast_ofNat_Int, Nat.reduceEqDiff, reduceIte, Nat.reduceAdd, Nat.reduceMul, Nat.reduceLeDiff, Nat.reduceSub, Nat.reduceLT, Nat.zero_lt_succ, Int.reduceToNat, Int.reduceAdd, Int.reduceSub, Int.reduceMul, Int.reduceNeg, Int.reduceLT, Int.reduceLE, Int.reduceEq, Int.reduceBEq, Int.reduceBNe, Nat.reduceBEq, List.reduceReplicate, hm, hd.2.1, h1, h2]
      exact LeA.refl _
end Go.Proofs.Ytgkjocnfdllieaa
