/- The laws on Of, Zeros, Equal, At and Set. -/
import Derived.Test.YtjlcbojpiieafaaDoorDG
import Derived.Test.YtjlcbojpiieafaaDoorDF2

set_option linter.all false

namespace Go.Proofs.YtjlcbojpiieafaaDoor
open Go Go.Fw

theorem eqA_refl (a : Arr) : eqA a a = true := by unfold eqA; rw [eqS_refl, dself, dself]; rfl
theorem few_ok {a : Arr} {n : Int} (h : fewA a n = true) (hn : n ≤ 1000000) : okA a := by
  simp only [fewA, Bool.and_eq_true, decide_eq_true_eq] at h
  exact ⟨by omega, by omega⟩
theorem okA_nil : okA nilA := ⟨by simp [nilA], by simp [nilA]⟩
theorem okA_of {a : Arr} (h : okA a) : okA (ofS a).1 := by
  unfold ofS
  split
  · exact h
  · exact okA_nil
theorem okA_zeros {e : ByteArray} {d : List Int} (h : d.length ≤ 1000000) : okA (zerosS e d).1 := by
  unfold zerosS
  split
  · exact okA_nil
  split
  · exact okA_nil
  · have hz := sizeS_bd d
    exact okA_of ⟨h, by simp only [List.length_replicate]; omega⟩
theorem okA_set {a : Arr} {ix : List Int} {n : Int} (h : okA a) : okA (setA' a ix n).1 := by
  unfold setA'
  split
  · exact okA_nil
  split
  · exact okA_nil
  · exact ⟨h.1, by simpa using h.2⟩
noncomputable def E70 : Env := envJ (P := Tryd.prog) jk zer (fun _ => false) (fun _ => false) [con8, con16, con17, con18, con19, con20, con21, con22, con23, con24, con25, con26, con27, con28] []
theorem E70_ok : EnvOk Tryd.prog E70 := envJOk zer_ok
set_option maxRecDepth 20000 in
set_option maxHeartbeats 4000000 in
theorem law5 {a b : Arr} : PC Tryd.prog 5 [arrV a, arrV b] (.lit (.bool true)) := by
  by_cases h : fewA a 100 = true ∧ fewA b 100 = true
  · obtain ⟨h1, h2⟩ := h
    have ha := few_ok h1 (by decide)
    have hb := few_ok h2 (by decide)
    have ha1 := ha.1
    have ha2 := ha.2
    have hb1 := hb.1
    have hb2 := hb.2
    have k1 := okA_of ha
    have k2 := okA_zeros (e := a.e) ha.1
    refine pc_ofR E70_ok mixed (fun _ => [0, 1, 2, 3, 4, 5, 6, 7, 8, 9, 10, 11, 12, 14, 22]) (rs := [.tmp 4]) Tryd.func5 rfl (by kernel_rfl) (by kernel_rfl) (Nat.le_of_ble_eq_true rfl) ?_
    simp only [initF_cons, initF_nil, Nat.reduceAdd]
    refine t_name fun KF => ?_
    unfold E70
    repeat' (first
      | with_reducible refine t_seq fun K => ?_
      | with_reducible refine t_block ?_
      | with_reducible refine t_scope ?_
      | with_reducible refine t_label ?_
      | with_reducible refine t_skip ?_
      | with_reducible refine t_exit ?_
      | with_reducible refine t_ret ?_
      | with_reducible refine t_k ?_
      | (with_reducible refine t_gF ?_)
      | ((first | with_reducible refine t_kE ?_ | with_reducible refine t_kD ?_ | with_reducible refine t_gS ?_ | with_reducible refine t_kL ?_ | (with_reducible refine t_kLE ?_ ?_; rotate_left) | with_reducible refine t_region fun K => ?_ | with_reducible refine t_draw (by kernel_rfl) fun K => ?_); simp only [go_sem, Int.cast_ofNat_Int, Nat.reduceEqDiff, reduceIte, Nat.reduceAdd, Nat.reduceMul, Nat.reduceLeDiff, Nat.reduceSub, Nat.reduceLT, Nat.zero_lt_succ, Int.reduceToNat, Int.reduceAdd, Int.reduceSub, Int.reduceMul, Int.reduceNeg, Int.reduceLT, Int.reduceLE, Int.reduceEq, Int.reduceBEq, Int.reduceBNe, Nat.reduceBEq, List.reduceReplicate, con8_f, con16_f, con17_f, con18_f, con19_f, con20_f, con21_f, con22_f, con23_f, con24_f, con25_f, con26_f, con27_f, con28_f, con8_c, con16_c, con17_c, con18_c, con19_c, con20_c, con21_c, con22_c, con23_c, con24_c, arrOf_agg, arrV_def, aeV_def, slK_sl, szV_def, arr_eta, h1, h2, eqA_refl, beq_self_eq_true])
      | (with_reducible exact kp_nil)
      | (with_reducible exact Kp.refl _)
      | (with_reducible exact kp_to)
      | (with_reducible refine kp_cons ?_)
      | (with_reducible refine kp_arr ?_)
      | (with_reducible refine kp_app ?_)
      | ((with_reducible refine kp_skip ?_ ?_); rfl)
      | ((with_reducible refine t_cond fun A B => ?_); simp only [go_sem, Int.cast_ofNat_Int, Nat.reduceEqDiff, reduceIte, Nat.reduceAdd, Nat.reduceMul, Nat.reduceLeDiff, Nat.reduceSub, Nat.reduceLT, Nat.zero_lt_succ, Int.reduceToNat, Int.reduceAdd, Int.reduceSub, Int.reduceMul, Int.reduceNeg, Int.reduceLT, Int.reduceLE, Int.reduceEq, Int.reduceBEq, Int.reduceBNe, Nat.reduceBEq, List.reduceReplicate, con8_f, con16_f, con17_f, con18_f, con19_f, con20_f, con21_f, con22_f, con23_f, con24_f, con25_f, con26_f, con27_f, con28_f, con8_c, con16_c, con17_c, con18_c, con19_c, con20_c, con21_c, con22_c, con23_c, con24_c, arrOf_agg, arrV_def, aeV_def, slK_sl, szV_def, arr_eta, h1, h2, eqA_refl, beq_self_eq_true]; first | (with_reducible refine A.h ?_) | (with_reducible refine B.h ?_) | (refine And.intro (fun hc => A.h ?_) (fun hc => B.h ?_)))
      | simp only [thenQ_n, thenQ_r, thenQ_e, blockQ_n, blockQ_r, blockQ_e, scopeQ_n, scopeQ_r, scopeQ_e, Nat.reduceEqDiff, reduceIte]
      | (with_reducible refine And.intro ?_ ?_)
      | with_reducible intro vr)
    all_goals try (first | (with_reducible assumption) | (intros; (try simp only [Bool.and_eq_true, Bool.or_eq_true, Bool.not_eq_true', decide_eq_true_eq, decide_eq_false_iff_not, beq_iff_eq, bne_iff_ne, ne_eq, inI64, List.length_append] at *) <;> omega))
    all_goals ((first | refine end_retE ?_ | refine end_normE ?_); simp only [fin, go_sem, Int.cast_ofNat_Int, Nat.reduceEqDiff, reduceIte, Nat.reduceAdd, Nat.reduceMul, Nat.reduceLeDiff, Nat.reduceSub, Nat.reduceLT, Nat.zero_lt_succ, Int.reduceToNat, Int.reduceAdd, Int.reduceSub, Int.reduceMul, Int.reduceNeg, Int.reduceLT, Int.reduceLE, Int.reduceEq, Int.reduceBEq, Int.reduceBNe, Nat.reduceBEq, List.reduceReplicate])
    all_goals exact LeA.refl _
  · have h' : (!fewA a 100 || !fewA b 100) = true := by cases h1 : fewA a 100 <;> cases h2 : fewA b 100 <;> simp_all
    refine pc_ofR E70_ok mixed (fun _ => [0, 1, 2, 3, 4, 5, 6, 7, 8, 9, 10, 11, 12, 14, 22]) (rs := [.tmp 4]) Tryd.func5 rfl (by kernel_rfl) (by kernel_rfl) (Nat.le_of_ble_eq_true rfl) ?_
    simp only [initF_cons, initF_nil, Nat.reduceAdd]
    refine t_name fun KF => ?_
    unfold E70
    repeat' (first
      | with_reducible refine t_seq fun K => ?_
      | with_reducible refine t_block ?_
      | with_reducible refine t_scope ?_
      | with_reducible refine t_label ?_
      | with_reducible refine t_skip ?_
      | with_reducible refine t_exit ?_
      | with_reducible refine t_ret ?_
      | with_reducible refine t_k ?_
      | (with_reducible refine t_gF ?_)
      | ((first | with_reducible refine t_kE ?_ | with_reducible refine t_kD ?_ | with_reducible refine t_gS ?_ | with_reducible refine t_kL ?_ | (with_reducible refine t_kLE ?_ ?_; rotate_left) | with_reducible refine t_region fun K => ?_ | with_reducible refine t_draw (by kernel_rfl) fun K => ?_); simp only [go_sem, Int.cast_ofNat_Int, Nat.reduceEqDiff, reduceIte, Nat.reduceAdd, Nat.reduceMul, Nat.reduceLeDiff, Nat.reduceSub, Nat.reduceLT, Nat.zero_lt_succ, Int.reduceToNat, Int.reduceAdd, Int.reduceSub, Int.reduceMul, Int.reduceNeg, Int.reduceLT, Int.reduceLE, Int.reduceEq, Int.reduceBEq, Int.reduceBNe, Nat.reduceBEq, List.reduceReplicate, h', con8_f, con16_f, con17_f, con18_f, con19_f, con20_f, con21_f, con22_f, con23_f, con24_f, con25_f, con26_f, con27_f, con28_f, con8_c, con16_c, con17_c, con18_c, con19_c, con20_c, con21_c, con22_c, con23_c, con24_c, arrOf_agg, arrV_def, aeV_def, slK_sl, szV_def, arr_eta])
      | (with_reducible exact kp_nil)
      | (with_reducible exact Kp.refl _)
      | (with_reducible exact kp_to)
      | (with_reducible refine kp_cons ?_)
      | (with_reducible refine kp_arr ?_)
      | (with_reducible refine kp_app ?_)
      | ((with_reducible refine kp_skip ?_ ?_); rfl)
      | ((with_reducible refine t_cond fun A B => ?_); simp only [go_sem, Int.cast_ofNat_Int, Nat.reduceEqDiff, reduceIte, Nat.reduceAdd, Nat.reduceMul, Nat.reduceLeDiff, Nat.reduceSub, Nat.reduceLT, Nat.zero_lt_succ, Int.reduceToNat, Int.reduceAdd, Int.reduceSub, Int.reduceMul, Int.reduceNeg, Int.reduceLT, Int.reduceLE, Int.reduceEq, Int.reduceBEq, Int.reduceBNe, Nat.reduceBEq, List.reduceReplicate, h', con8_f, con16_f, con17_f, con18_f, con19_f, con20_f, con21_f, con22_f, con23_f, con24_f, con25_f, con26_f, con27_f, con28_f, con8_c, con16_c, con17_c, con18_c, con19_c, con20_c, con21_c, con22_c, con23_c, con24_c, arrOf_agg, arrV_def, aeV_def, slK_sl, szV_def, arr_eta]; first | (with_reducible refine A.h ?_) | (with_reducible refine B.h ?_) | (refine And.intro (fun hc => A.h ?_) (fun hc => B.h ?_)))
      | simp only [thenQ_n, thenQ_r, thenQ_e, blockQ_n, blockQ_r, blockQ_e, scopeQ_n, scopeQ_r, scopeQ_e, Nat.reduceEqDiff, reduceIte]
      | (with_reducible refine And.intro ?_ ?_)
      | with_reducible intro vr)
    all_goals try (first | (with_reducible assumption) | (intros; (try simp only [Bool.and_eq_true, Bool.or_eq_true, Bool.not_eq_true', decide_eq_true_eq, decide_eq_false_iff_not, beq_iff_eq, bne_iff_ne, ne_eq, inI64, List.length_append] at *) <;> omega))
    all_goals ((first | refine end_retE ?_ | refine end_normE ?_); simp only [fin, go_sem, Int.cast_ofNat_Int, Nat.reduceEqDiff, reduceIte, Nat.reduceAdd, Nat.reduceMul, Nat.reduceLeDiff, Nat.reduceSub, Nat.reduceLT, Nat.zero_lt_succ, Int.reduceToNat, Int.reduceAdd, Int.reduceSub, Int.reduceMul, Int.reduceNeg, Int.reduceLT, Int.reduceLE, Int.reduceEq, Int.reduceBEq, Int.reduceBNe, Nat.reduceBEq, List.reduceReplicate])
    all_goals exact LeA.refl _
set_option maxRecDepth 20000 in
set_option maxHeartbeats 4000000 in
theorem law6 {a : Arr} {ix : List Int} {n : Int} : PC Tryd.prog 6 [arrV a, .sl false 1 (ints .i64 ix), .lit (.int .i64 n)] (.lit (.bool true)) := by
  by_cases h : fewA a 100 = true ∧ ix.length ≤ 8
  · obtain ⟨h1, h2⟩ := h
    have h2' : decide ((ix.length : Int) > 8) = false := decide_eq_false (by omega)
    have ha := few_ok h1 (by decide)
    have ha1 := ha.1
    have ha2 := ha.2
    have k1 := okA_set (ix := ix) (n := n) ha
    refine pc_ofR E70_ok mixed (fun _ => [0, 1, 2, 3, 6, 7, 8, 9, 10, 11, 12, 13, 14, 16, 24]) (rs := [.tmp 6]) Tryd.func6 rfl (by kernel_rfl) (by kernel_rfl) (Nat.le_of_ble_eq_true rfl) ?_
    simp only [initF_cons, initF_nil, Nat.reduceAdd]
    refine t_name fun KF => ?_
    unfold E70
    repeat' (first
      | with_reducible refine t_seq fun K => ?_
      | with_reducible refine t_block ?_
      | with_reducible refine t_scope ?_
      | with_reducible refine t_label ?_
      | with_reducible refine t_skip ?_
      | with_reducible refine t_exit ?_
      | with_reducible refine t_ret ?_
      | with_reducible refine t_k ?_
      | (with_reducible refine t_gF ?_)
      | ((first | with_reducible refine t_kE ?_ | with_reducible refine t_kD ?_ | with_reducible refine t_gS ?_ | with_reducible refine t_kL ?_ | (with_reducible refine t_kLE ?_ ?_; rotate_left) | with_reducible refine t_region fun K => ?_ | with_reducible refine t_draw (by kernel_rfl) fun K => ?_); simp only [go_sem, Int.cast_ofNat_Int, Nat.reduceEqDiff, reduceIte, Nat.reduceAdd, Nat.reduceMul, Nat.reduceLeDiff, Nat.reduceSub, Nat.reduceLT, Nat.zero_lt_succ, Int.reduceToNat, Int.reduceAdd, Int.reduceSub, Int.reduceMul, Int.reduceNeg, Int.reduceLT, Int.reduceLE, Int.reduceEq, Int.reduceBEq, Int.reduceBNe, Nat.reduceBEq, List.reduceReplicate, con8_f, con16_f, con17_f, con18_f, con19_f, con20_f, con21_f, con22_f, con23_f, con24_f, con25_f, con26_f, con27_f, con28_f, con8_c, con16_c, con25_c, con26_c, con27_c, con28_c, con21_c, arrOf_agg, arrV_def, aeV_def, slK_sl, szV_def, arr_eta, h1, h2', eqA_refl, beq_self_eq_true])
      | (with_reducible exact kp_nil)
      | (with_reducible exact Kp.refl _)
      | (with_reducible exact kp_to)
      | (with_reducible refine kp_cons ?_)
      | (with_reducible refine kp_arr ?_)
      | (with_reducible refine kp_app ?_)
      | ((with_reducible refine kp_skip ?_ ?_); rfl)
      | ((with_reducible refine t_cond fun A B => ?_); simp only [go_sem, Int.cast_ofNat_Int, Nat.reduceEqDiff, reduceIte, Nat.reduceAdd, Nat.reduceMul, Nat.reduceLeDiff, Nat.reduceSub, Nat.reduceLT, Nat.zero_lt_succ, Int.reduceToNat, Int.reduceAdd, Int.reduceSub, Int.reduceMul, Int.reduceNeg, Int.reduceLT, Int.reduceLE, Int.reduceEq, Int.reduceBEq, Int.reduceBNe, Nat.reduceBEq, List.reduceReplicate, con8_f, con16_f, con17_f, con18_f, con19_f, con20_f, con21_f, con22_f, con23_f, con24_f, con25_f, con26_f, con27_f, con28_f, con8_c, con16_c, con25_c, con26_c, con27_c, con28_c, con21_c, arrOf_agg, arrV_def, aeV_def, slK_sl, szV_def, arr_eta, h1, h2', eqA_refl, beq_self_eq_true]; first | (with_reducible refine A.h ?_) | (with_reducible refine B.h ?_) | (refine And.intro (fun hc => A.h ?_) (fun hc => B.h ?_)))
      | simp only [thenQ_n, thenQ_r, thenQ_e, blockQ_n, blockQ_r, blockQ_e, scopeQ_n, scopeQ_r, scopeQ_e, Nat.reduceEqDiff, reduceIte]
      | (with_reducible refine And.intro ?_ ?_)
      | with_reducible intro vr)
    all_goals try (first | (with_reducible assumption) | (intros; (try simp only [Bool.and_eq_true, Bool.or_eq_true, Bool.not_eq_true', decide_eq_true_eq, decide_eq_false_iff_not, beq_iff_eq, bne_iff_ne, ne_eq, inI64, List.length_append] at *) <;> omega))
    all_goals ((first | refine end_retE ?_ | refine end_normE ?_); simp only [fin, go_sem, Int.cast_ofNat_Int, Nat.reduceEqDiff, reduceIte, Nat.reduceAdd, Nat.reduceMul, Nat.reduceLeDiff, Nat.reduceSub, Nat.reduceLT, Nat.zero_lt_succ, Int.reduceToNat, Int.reduceAdd, Int.reduceSub, Int.reduceMul, Int.reduceNeg, Int.reduceLT, Int.reduceLE, Int.reduceEq, Int.reduceBEq, Int.reduceBNe, Nat.reduceBEq, List.reduceReplicate])
    all_goals exact LeA.refl _
  · have h' : (!fewA a 100 || decide ((ix.length : Int) > 8)) = true := by
      cases h1 : fewA a 100 with
      | false => rfl
      | true => simp only [Bool.not_true, Bool.false_or, decide_eq_true_eq]; have h3 : ¬ ix.length ≤ 8 := fun h2 => h ⟨h1, h2⟩; omega
    refine pc_ofR E70_ok mixed (fun _ => [0, 1, 2, 3, 6, 7, 8, 9, 10, 11, 12, 13, 14, 16, 24]) (rs := [.tmp 6]) Tryd.func6 rfl (by kernel_rfl) (by kernel_rfl) (Nat.le_of_ble_eq_true rfl) ?_
    simp only [initF_cons, initF_nil, Nat.reduceAdd]
    refine t_name fun KF => ?_
    unfold E70
    repeat' (first
      | with_reducible refine t_seq fun K => ?_
      | with_reducible refine t_block ?_
      | with_reducible refine t_scope ?_
      | with_reducible refine t_label ?_
      | with_reducible refine t_skip ?_
      | with_reducible refine t_exit ?_
      | with_reducible refine t_ret ?_
      | with_reducible refine t_k ?_
      | (with_reducible refine t_gF ?_)
      | ((first | with_reducible refine t_kE ?_ | with_reducible refine t_kD ?_ | with_reducible refine t_gS ?_ | with_reducible refine t_kL ?_ | (with_reducible refine t_kLE ?_ ?_; rotate_left) | with_reducible refine t_region fun K => ?_ | with_reducible refine t_draw (by kernel_rfl) fun K => ?_); simp only [go_sem, Int.cast_ofNat_Int, Nat.reduceEqDiff, reduceIte, Nat.reduceAdd, Nat.reduceMul, Nat.reduceLeDiff, Nat.reduceSub, Nat.reduceLT, Nat.zero_lt_succ, Int.reduceToNat, Int.reduceAdd, Int.reduceSub, Int.reduceMul, Int.reduceNeg, Int.reduceLT, Int.reduceLE, Int.reduceEq, Int.reduceBEq, Int.reduceBNe, Nat.reduceBEq, List.reduceReplicate, h', con8_f, con16_f, con17_f, con18_f, con19_f, con20_f, con21_f, con22_f, con23_f, con24_f, con25_f, con26_f, con27_f, con28_f, con8_c, con16_c, con25_c, con26_c, con27_c, con28_c, con21_c, arrOf_agg, arrV_def, aeV_def, slK_sl, szV_def, arr_eta])
      | (with_reducible exact kp_nil)
      | (with_reducible exact Kp.refl _)
      | (with_reducible exact kp_to)
      | (with_reducible refine kp_cons ?_)
      | (with_reducible refine kp_arr ?_)
      | (with_reducible refine kp_app ?_)
      | ((with_reducible refine kp_skip ?_ ?_); rfl)
      | ((with_reducible refine t_cond fun A B => ?_); simp only [go_sem, Int.cast_ofNat_Int, Nat.reduceEqDiff, reduceIte, Nat.reduceAdd, Nat.reduceMul, Nat.reduceLeDiff, Nat.reduceSub, Nat.reduceLT, Nat.zero_lt_succ, Int.reduceToNat, Int.reduceAdd, Int.reduceSub, Int.reduceMul, Int.reduceNeg, Int.reduceLT, Int.reduceLE, Int.reduceEq, Int.reduceBEq, Int.reduceBNe, Nat.reduceBEq, List.reduceReplicate, h', con8_f, con16_f, con17_f, con18_f, con19_f, con20_f, con21_f, con22_f, con23_f, con24_f, con25_f, con26_f, con27_f, con28_f, con8_c, con16_c, con25_c, con26_c, con27_c, con28_c, con21_c, arrOf_agg, arrV_def, aeV_def, slK_sl, szV_def, arr_eta]; first | (with_reducible refine A.h ?_) | (with_reducible refine B.h ?_) | (refine And.intro (fun hc => A.h ?_) (fun hc => B.h ?_)))
      | simp only [thenQ_n, thenQ_r, thenQ_e, blockQ_n, blockQ_r, blockQ_e, scopeQ_n, scopeQ_r, scopeQ_e, Nat.reduceEqDiff, reduceIte]
      | (with_reducible refine And.intro ?_ ?_)
      | with_reducible intro vr)
    all_goals try (first | (with_reducible assumption) | (intros; (try simp only [Bool.and_eq_true, Bool.or_eq_true, Bool.not_eq_true', decide_eq_true_eq, decide_eq_false_iff_not, beq_iff_eq, bne_iff_ne, ne_eq, inI64, List.length_append] at *) <;> omega))
    all_goals ((first | refine end_retE ?_ | refine end_normE ?_); simp only [fin, go_sem, Int.cast_ofNat_Int, Nat.reduceEqDiff, reduceIte, Nat.reduceAdd, Nat.reduceMul, Nat.reduceLeDiff, Nat.reduceSub, Nat.reduceLT, Nat.zero_lt_succ, Int.reduceToNat, Int.reduceAdd, Int.reduceSub, Int.reduceMul, Int.reduceNeg, Int.reduceLT, Int.reduceLE, Int.reduceEq, Int.reduceBEq, Int.reduceBNe, Nat.reduceBEq, List.reduceReplicate])
    all_goals exact LeA.refl _
end Go.Proofs.YtjlcbojpiieafaaDoor
