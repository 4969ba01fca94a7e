/- Checks of axes. -/
import Derived.Test.YtjlcbojpiieafaaCI

set_option linter.all false

namespace Go.Proofs.Ytjlcbojpiieafaa
open Go Go.Fw

noncomputable def E24 : Env := envOf (P := Try.prog) zer (fun t => t == 35) (fun _ => false) [con25, con59, con60] []
theorem E24_ok : EnvOk Try.prog E24 := envOk zer_ok
theorem ofE_rank {a : Arr} (h : ofE a = 0) : a.d.length ≤ 6 := (sizeS_ok (ofE_inv h).2.1).1
set_option maxRecDepth 20000 in
set_option maxHeartbeats 2000000 in
theorem check_pc {frame axes : List Int} {r : Int} {a : Arr} (hl : frame.length ≤ 1000000) (hx : axes.length ≤ 1000000) (hr : inI64 r) (ha : okA a) :
    PC Try.prog 66 [.sl false 1 (ints .i64 frame), .sl false 1 (ints .i64 axes), .lit (.int .i64 r), arrV a] (.lit (.int .i64 (checkS frame axes r a))) := by
  have ha1 := ha.1
  have ha2 := ha.2
  unfold checkS
  cases hP : pickS frame axes with
  | none =>
    simp only
    refine pc_of E24_ok mixed (fun _ => [0, 1, 2, 3, 7, 8, 9, 10, 17, 25, 38]) Try.func66 rfl (by kernel_rfl) (Nat.le_of_ble_eq_true rfl) ?_
    simp only [initF_cons, initF_nil, Nat.reduceAdd]
    refine t_name fun KF => ?_
    unfold E24
    repeat' (first
      | with_reducible refine t_seq fun K => ?_
      | with_reducible refine t_block ?_
      | with_reducible refine t_scope ?_
      | with_reducible refine t_label ?_
      | with_reducible refine t_skip ?_
      | with_reducible refine t_exit ?_
      | with_reducible refine t_ret ?_
      | with_reducible refine t_k ?_
      | (with_reducible refine t_gF ?_)
      | ((first | with_reducible refine t_kE ?_ | with_reducible refine t_kD ?_ | with_reducible refine t_gS ?_ | with_reducible refine t_kL ?_ | (with_reducible refine t_kLE ?_ ?_; rotate_left) | with_reducible refine t_region fun K => ?_ | with_reducible refine t_draw (by kernel_rfl) fun K => ?_); simp only [go_sem, Int.cast_ofNat_Int, Nat.reduceEqDiff, reduceIte, Nat.reduceAdd, Nat.reduceMul, Nat.reduceLeDiff, Nat.reduceSub, Nat.reduceLT, Nat.zero_lt_succ, Int.reduceToNat, Int.reduceAdd, Int.reduceSub, Int.reduceMul, Int.reduceNeg, Int.reduceLT, Int.reduceLE, Int.reduceEq, Int.reduceBEq, Int.reduceBNe, Nat.reduceBEq, List.reduceReplicate, con25_f, con25_c, con59_f, con60_f, con60_c, arrV_def, arrOf_agg, slK_sl, hP, optV, Bool.not_false, Bool.not_true])
      | (with_reducible exact kp_nil)
      | (with_reducible exact Kp.refl _)
      | (with_reducible exact kp_to)
      | (with_reducible refine kp_cons ?_)
      | (with_reducible refine kp_arr ?_)
      | (with_reducible refine kp_app ?_)
      | ((with_reducible refine kp_skip ?_ ?_); rfl)
      | ((with_reducible refine t_cond fun A B => ?_); simp only [go_sem, Int.cast_ofNat_Int, Nat.reduceEqDiff, reduceIte, Nat.reduceAdd, Nat.reduceMul, Nat.reduceLeDiff, Nat.reduceSub, Nat.reduceLT, Nat.zero_lt_succ, Int.reduceToNat, Int.reduceAdd, Int.reduceSub, Int.reduceMul, Int.reduceNeg, Int.reduceLT, Int.reduceLE, Int.reduceEq, Int.reduceBEq, Int.reduceBNe, Nat.reduceBEq, List.reduceReplicate, con25_f, con25_c, con59_f, con60_f, con60_c, arrV_def, arrOf_agg, slK_sl, hP, optV, Bool.not_false, Bool.not_true]; first | (with_reducible refine A.h ?_) | (with_reducible refine B.h ?_) | refine And.intro (fun hc => A.h ?_) (fun hc => B.h ?_))
      | simp only [thenQ_n, thenQ_r, thenQ_e, blockQ_n, blockQ_r, blockQ_e, scopeQ_n, scopeQ_r, scopeQ_e, Nat.reduceEqDiff, reduceIte]
      | (with_reducible refine And.intro ?_ ?_)
      | with_reducible intro vr)
    all_goals try (intros; (try simp only [Bool.and_eq_true, Bool.or_eq_true, Bool.not_eq_true', decide_eq_true_eq, decide_eq_false_iff_not, beq_iff_eq, bne_iff_ne, ne_eq, inI64, List.length_append] at *) <;> omega)
    refine end_ret rfl ?_
    simp only [fin, go_sem, Int.cast_ofNat_Int, Nat.reduceEqDiff, reduceIte, Nat.reduceAdd, Nat.reduceMul, Nat.reduceLeDiff, Nat.reduceSub, Nat.reduceLT, Nat.zero_lt_succ, Int.reduceToNat, Int.reduceAdd, Int.reduceSub, Int.reduceMul, Int.reduceNeg, Int.reduceLT, Int.reduceLE, Int.reduceEq, Int.reduceBEq, Int.reduceBNe, Nat.reduceBEq, List.reduceReplicate]
    exact LeA.refl _
  | some own =>
    simp only
    by_cases h0 : ofE a = 0
    · have e0 : (ofE a == 0) = true := by rw [h0]; rfl
      have hrk := ofE_rank h0
      rw [if_neg (by simpa using h0)]
      by_cases h1 : r < 0
      · have h1' : decide (r < 0) = true := decide_eq_true h1
        rw [if_pos (.inl h1)]
        refine pc_of E24_ok mixed (fun _ => [0, 1, 2, 3, 7, 8, 9, 10, 17, 25, 38]) Try.func66 rfl (by kernel_rfl) (Nat.le_of_ble_eq_true rfl) ?_
        simp only [initF_cons, initF_nil, Nat.reduceAdd]
        refine t_name fun KF => ?_
        unfold E24
        repeat' (first
          | with_reducible refine t_seq fun K => ?_
          | with_reducible refine t_block ?_
          | with_reducible refine t_scope ?_
          | with_reducible refine t_label ?_
          | with_reducible refine t_skip ?_
          | with_reducible refine t_exit ?_
          | with_reducible refine t_ret ?_
          | with_reducible refine t_k ?_
          | (with_reducible refine t_gF ?_)
          | ((first | with_reducible refine t_kE ?_ | with_reducible refine t_kD ?_ | with_reducible refine t_gS ?_ | with_reducible refine t_kL ?_ | (with_reducible refine t_kLE ?_ ?_; rotate_left) | with_reducible refine t_region fun K => ?_ | with_reducible refine t_draw (by kernel_rfl) fun K => ?_); simp only [go_sem, Int.cast_ofNat_Int, Nat.reduceEqDiff, reduceIte, Nat.reduceAdd, Nat.reduceMul, Nat.reduceLeDiff, Nat.reduceSub, Nat.reduceLT, Nat.zero_lt_succ, Int.reduceToNat, Int.reduceAdd, Int.reduceSub, Int.reduceMul, Int.reduceNeg, Int.reduceLT, Int.reduceLE, Int.reduceEq, Int.reduceBEq, Int.reduceBNe, Nat.reduceBEq, List.reduceReplicate, con25_f, con25_c, con59_f, con60_f, con60_c, arrV_def, arrOf_agg, slK_sl, hP, optV, e0, h1', Bool.not_false, Bool.not_true])
          | (with_reducible exact kp_nil)
          | (with_reducible exact Kp.refl _)
          | (with_reducible exact kp_to)
          | (with_reducible refine kp_cons ?_)
          | (with_reducible refine kp_arr ?_)
          | (with_reducible refine kp_app ?_)
          | ((with_reducible refine kp_skip ?_ ?_); rfl)
          | ((with_reducible refine t_cond fun A B => ?_); simp only [go_sem, Int.cast_ofNat_Int, Nat.reduceEqDiff, reduceIte, Nat.reduceAdd, Nat.reduceMul, Nat.reduceLeDiff, Nat.reduceSub, Nat.reduceLT, Nat.zero_lt_succ, Int.reduceToNat, Int.reduceAdd, Int.reduceSub, Int.reduceMul, Int.reduceNeg, Int.reduceLT, Int.reduceLE, Int.reduceEq, Int.reduceBEq, Int.reduceBNe, Nat.reduceBEq, List.reduceReplicate, con25_f, con25_c, con59_f, con60_f, con60_c, arrV_def, arrOf_agg, slK_sl, hP, optV, e0, h1', Bool.not_false, Bool.not_true]; first | (with_reducible refine A.h ?_) | (with_reducible refine B.h ?_) | refine And.intro (fun hc => A.h ?_) (fun hc => B.h ?_))
          | simp only [thenQ_n, thenQ_r, thenQ_e, blockQ_n, blockQ_r, blockQ_e, scopeQ_n, scopeQ_r, scopeQ_e, Nat.reduceEqDiff, reduceIte]
          | (with_reducible refine And.intro ?_ ?_)
          | with_reducible intro vr)
        all_goals try (intros; (try simp only [Bool.and_eq_true, Bool.or_eq_true, Bool.not_eq_true', decide_eq_true_eq, decide_eq_false_iff_not, beq_iff_eq, bne_iff_ne, ne_eq, inI64, List.length_append] at *) <;> omega)
        refine end_ret rfl ?_
        simp only [fin, go_sem, Int.cast_ofNat_Int, Nat.reduceEqDiff, reduceIte, Nat.reduceAdd, Nat.reduceMul, Nat.reduceLeDiff, Nat.reduceSub, Nat.reduceLT, Nat.zero_lt_succ, Int.reduceToNat, Int.reduceAdd, Int.reduceSub, Int.reduceMul, Int.reduceNeg, Int.reduceLT, Int.reduceLE, Int.reduceEq, Int.reduceBEq, Int.reduceBNe, Nat.reduceBEq, List.reduceReplicate]
        exact LeA.refl _
      · have h1' : decide (r < 0) = false := decide_eq_false h1
        have hw : ((a.d.length : Int) != IntKind.i64.wrap (r + (axes.length : Int))) = ((a.d.length : Int) != r + (axes.length : Int)) := by
          rw [wrap64_eq]
          by_cases e : (a.d.length : Int) = r + axes.length
          · rw [bne_eq_false_iff_eq.2 e, bne_eq_false_iff_eq]; unfold inI64 at hr; omega
          · rw [bne_iff_ne.2 e, bne_iff_ne]; unfold inI64 at hr; omega
        by_cases h2 : (a.d.length : Int) = r + axes.length
        · have h2' : ((a.d.length : Int) != r + (axes.length : Int)) = false := bne_eq_false_iff_eq.2 h2
          rw [if_neg (by omega)]
          by_cases h3 : a.d.take axes.length = own
          · have h3' : decide (a.d.take axes.length = own) = true := decide_eq_true h3
            rw [if_neg (by simpa using h3)]
            refine pc_of E24_ok mixed (fun _ => [0, 1, 2, 3, 7, 8, 9, 10, 17, 25, 38]) Try.func66 rfl (by kernel_rfl) (Nat.le_of_ble_eq_true rfl) ?_
            simp only [initF_cons, initF_nil, Nat.reduceAdd]
            refine t_name fun KF => ?_
            unfold E24
            repeat' (first
              | with_reducible refine t_seq fun K => ?_
              | with_reducible refine t_block ?_
              | with_reducible refine t_scope ?_
              | with_reducible refine t_label ?_
              | with_reducible refine t_skip ?_
              | with_reducible refine t_exit ?_
              | with_reducible refine t_ret ?_
              | with_reducible refine t_k ?_
              | (with_reducible refine t_gF ?_)
              | ((first | with_reducible refine t_kE ?_ | with_reducible refine t_kD ?_ | with_reducible refine t_gS ?_ | with_reducible refine t_kL ?_ | (with_reducible refine t_kLE ?_ ?_; rotate_left) | with_reducible refine t_region fun K => ?_ | with_reducible refine t_draw (by kernel_rfl) fun K => ?_); simp only [go_sem, Int.cast_ofNat_Int, Nat.reduceEqDiff, reduceIte, Nat.reduceAdd, Nat.reduceMul, Nat.reduceLeDiff, Nat.reduceSub, Nat.reduceLT, Nat.zero_lt_succ, Int.reduceToNat, Int.reduceAdd, Int.reduceSub, Int.reduceMul, Int.reduceNeg, Int.reduceLT, Int.reduceLE, Int.reduceEq, Int.reduceBEq, Int.reduceBNe, Nat.reduceBEq, List.reduceReplicate, con25_f, con25_c, con59_f, con59_c, con60_f, con60_c, arrV_def, arrOf_agg, slK_sl, hP, optV, e0, h1', hw, h2', h3', Bool.not_false, Bool.not_true, Int.toNat_natCast, List.length_take])
              | (with_reducible exact kp_nil)
              | (with_reducible exact Kp.refl _)
              | (with_reducible exact kp_to)
              | (with_reducible refine kp_cons ?_)
              | (with_reducible refine kp_arr ?_)
              | (with_reducible refine kp_app ?_)
              | ((with_reducible refine kp_skip ?_ ?_); rfl)
              | ((with_reducible refine t_cond fun A B => ?_); simp only [go_sem, Int.cast_ofNat_Int, Nat.reduceEqDiff, reduceIte, Nat.reduceAdd, Nat.reduceMul, Nat.reduceLeDiff, Nat.reduceSub, Nat.reduceLT, Nat.zero_lt_succ, Int.reduceToNat, Int.reduceAdd, Int.reduceSub, Int.reduceMul, Int.reduceNeg, Int.reduceLT, Int.reduceLE, Int.reduceEq, Int.reduceBEq, Int.reduceBNe, Nat.reduceBEq, List.reduceReplicate, con25_f, con25_c, con59_f, con59_c, con60_f, con60_c, arrV_def, arrOf_agg, slK_sl, hP, optV, e0, h1', hw, h2', h3', Bool.not_false, Bool.not_true, Int.toNat_natCast, List.length_take]; first | (with_reducible refine A.h ?_) | (with_reducible refine B.h ?_) | refine And.intro (fun hc => A.h ?_) (fun hc => B.h ?_))
              | simp only [thenQ_n, thenQ_r, thenQ_e, blockQ_n, blockQ_r, blockQ_e, scopeQ_n, scopeQ_r, scopeQ_e, Nat.reduceEqDiff, reduceIte]
              | (with_reducible refine And.intro ?_ ?_)
              | with_reducible intro vr)
            all_goals try (intros; (try simp only [Bool.and_eq_true, Bool.or_eq_true, Bool.not_eq_true', decide_eq_true_eq, decide_eq_false_iff_not, beq_iff_eq, bne_iff_ne, ne_eq, inI64, List.length_append] at *) <;> omega)
            refine end_ret rfl ?_
            simp only [fin, go_sem, Int.cast_ofNat_Int, Nat.reduceEqDiff, reduceIte, Nat.reduceAdd, Nat.reduceMul, Nat.reduceLeDiff, Nat.reduceSub, Nat.reduceLT, Nat.zero_lt_succ, Int.reduceToNat, Int.reduceAdd, Int.reduceSub, Int.reduceMul, Int.reduceNeg, Int.reduceLT, Int.reduceLE, Int.reduceEq, Int.reduceBEq, Int.reduceBNe, Nat.reduceBEq, List.reduceReplicate]
            exact LeA.refl _
          · have h3' : decide (a.d.take axes.length = own) = false := decide_eq_false h3
            rw [if_pos h3]
            refine pc_of E24_ok mixed (fun _ => [0, 1, 2, 3, 7, 8, 9, 10, 17, 25, 38]) Try.func66 rfl (by kernel_rfl) (Nat.le_of_ble_eq_true rfl) ?_
            simp only [initF_cons, initF_nil, Nat.reduceAdd]
            refine t_name fun KF => ?_
            unfold E24
            repeat' (first
              | with_reducible refine t_seq fun K => ?_
              | with_reducible refine t_block ?_
              | with_reducible refine t_scope ?_
              | with_reducible refine t_label ?_
              | with_reducible refine t_skip ?_
              | with_reducible refine t_exit ?_
              | with_reducible refine t_ret ?_
              | with_reducible refine t_k ?_
              | (with_reducible refine t_gF ?_)
              | ((first | with_reducible refine t_kE ?_ | with_reducible refine t_kD ?_ | with_reducible refine t_gS ?_ | with_reducible refine t_kL ?_ | (with_reducible refine t_kLE ?_ ?_; rotate_left) | with_reducible refine t_region fun K => ?_ | with_reducible refine t_draw (by kernel_rfl) fun K => ?_); simp only [go_sem, Int.cast_ofNat_Int, Nat.reduceEqDiff, reduceIte, Nat.reduceAdd, Nat.reduceMul, Nat.reduceLeDiff, Nat.reduceSub, Nat.reduceLT, Nat.zero_lt_succ, Int.reduceToNat, Int.reduceAdd, Int.reduceSub, Int.reduceMul, Int.reduceNeg, Int.reduceLT, Int.reduceLE, Int.reduceEq, Int.reduceBEq, Int.reduceBNe, Nat.reduceBEq, List.reduceReplicate, con25_f, con25_c, con59_f, con59_c, con60_f, con60_c, arrV_def, arrOf_agg, slK_sl, hP, optV, e0, h1', hw, h2', h3', Bool.not_false, Bool.not_true, Int.toNat_natCast, List.length_take])
              | (with_reducible exact kp_nil)
              | (with_reducible exact Kp.refl _)
              | (with_reducible exact kp_to)
              | (with_reducible refine kp_cons ?_)
              | (with_reducible refine kp_arr ?_)
              | (with_reducible refine kp_app ?_)
              | ((with_reducible refine kp_skip ?_ ?_); rfl)
              | ((with_reducible refine t_cond fun A B => ?_); simp only [go_sem, Int.cast_ofNat_Int, Nat.reduceEqDiff, reduceIte, Nat.reduceAdd, Nat.reduceMul, Nat.reduceLeDiff, Nat.reduceSub, Nat.reduceLT, Nat.zero_lt_succ, Int.reduceToNat, Int.reduceAdd, Int.reduceSub, Int.reduceMul, Int.reduceNeg, Int.reduceLT, Int.reduceLE, Int.reduceEq, Int.reduceBEq, Int.reduceBNe, Nat.reduceBEq, List.reduceReplicate, con25_f, con25_c, con59_f, con59_c, con60_f, con60_c, arrV_def, arrOf_agg, slK_sl, hP, optV, e0, h1', hw, h2', h3', Bool.not_false, Bool.not_true, Int.toNat_natCast, List.length_take]; first | (with_reducible refine A.h ?_) | (with_reducible refine B.h ?_) | refine And.intro (fun hc => A.h ?_) (fun hc => B.h ?_))
              | simp only [thenQ_n, thenQ_r, thenQ_e, blockQ_n, blockQ_r, blockQ_e, scopeQ_n, scopeQ_r, scopeQ_e, Nat.reduceEqDiff, reduceIte]
              | (with_reducible refine And.intro ?_ ?_)
              | with_reducible intro vr)
            all_goals try (intros; (try simp only [Bool.and_eq_true, Bool.or_eq_true, Bool.not_eq_true', decide_eq_true_eq, decide_eq_false_iff_not, beq_iff_eq, bne_iff_ne, ne_eq, inI64, List.length_append] at *) <;> omega)
            refine end_ret rfl ?_
            simp only [fin, go_sem, Int.cast_ofNat_Int, Nat.reduceEqDiff, reduceIte, Nat.reduceAdd, Nat.reduceMul, Nat.reduceLeDiff, Nat.reduceSub, Nat.reduceLT, Nat.zero_lt_succ, Int.reduceToNat, Int.reduceAdd, Int.reduceSub, Int.reduceMul, Int.reduceNeg, Int.reduceLT, Int.reduceLE, Int.reduceEq, Int.reduceBEq, Int.reduceBNe, Nat.reduceBEq, List.reduceReplicate]
            exact LeA.refl _
        · have h2' : ((a.d.length : Int) != r + (axes.length : Int)) = true := bne_iff_ne.2 h2
          rw [if_pos (.inr h2)]
          refine pc_of E24_ok mixed (fun _ => [0, 1, 2, 3, 7, 8, 9, 10, 17, 25, 38]) Try.func66 rfl (by kernel_rfl) (Nat.le_of_ble_eq_true rfl) ?_
          simp only [initF_cons, initF_nil, Nat.reduceAdd]
          refine t_name fun KF => ?_
          unfold E24
          repeat' (first
            | with_reducible refine t_seq fun K => ?_
            | with_reducible refine t_block ?_
            | with_reducible refine t_scope ?_
            | with_reducible refine t_label ?_
            | with_reducible refine t_skip ?_
            | with_reducible refine t_exit ?_
            | with_reducible refine t_ret ?_
            | with_reducible refine t_k ?_
            | (with_reducible refine t_gF ?_)
            | ((first | with_reducible refine t_kE ?_ | with_reducible refine t_kD ?_ | with_reducible refine t_gS ?_ | with_reducible refine t_kL ?_ | (with_reducible refine t_kLE ?_ ?_; rotate_left) | with_reducible refine t_region fun K => ?_ | with_reducible refine t_draw (by kernel_rfl) fun K => ?_); simp only [go_sem, Int.cast_ofNat_Int, Nat.reduceEqDiff, reduceIte, Nat.reduceAdd, Nat.reduceMul, Nat.reduceLeDiff, Nat.reduceSub, Nat.reduceLT, Nat.zero_lt_succ, Int.reduceToNat, Int.reduceAdd, Int.reduceSub, Int.reduceMul, Int.reduceNeg, Int.reduceLT, Int.reduceLE, Int.reduceEq, Int.reduceBEq, Int.reduceBNe, Nat.reduceBEq, List.reduceReplicate, con25_f, con25_c, con59_f, con60_f, con60_c, arrV_def, arrOf_agg, slK_sl, hP, optV, e0, h1', hw, h2', Bool.not_false, Bool.not_true])
            | (with_reducible exact kp_nil)
            | (with_reducible exact Kp.refl _)
            | (with_reducible exact kp_to)
            | (with_reducible refine kp_cons ?_)
            | (with_reducible refine kp_arr ?_)
            | (with_reducible refine kp_app ?_)
            | ((with_reducible refine kp_skip ?_ ?_); rfl)
            | ((with_reducible refine t_cond fun A B => ?_); simp only [go_sem, Int.cast_ofNat_Int, Nat.reduceEqDiff, reduceIte, Nat.reduceAdd, Nat.reduceMul, Nat.reduceLeDiff, Nat.reduceSub, Nat.reduceLT, Nat.zero_lt_succ, Int.reduceToNat, Int.reduceAdd, Int.reduceSub, Int.reduceMul, Int.reduceNeg, Int.reduceLT, Int.reduceLE, Int.reduceEq, Int.reduceBEq, Int.reduceBNe, Nat.reduceBEq, List.reduceReplicate, con25_f, con25_c, con59_f, con60_f, con60_c, arrV_def, arrOf_agg, slK_sl, hP, optV, e0, h1', hw, h2', Bool.not_false, Bool.not_true]; first | (with_reducible refine A.h ?_) | (with_reducible refine B.h ?_) | refine And.intro (fun hc => A.h ?_) (fun hc => B.h ?_))
            | simp only [thenQ_n, thenQ_r, thenQ_e, blockQ_n, blockQ_r, blockQ_e, scopeQ_n, scopeQ_r, scopeQ_e, Nat.reduceEqDiff, reduceIte]
            | (with_reducible refine And.intro ?_ ?_)
            | with_reducible intro vr)
          all_goals try (intros; (try simp only [Bool.and_eq_true, Bool.or_eq_true, Bool.not_eq_true', decide_eq_true_eq, decide_eq_false_iff_not, beq_iff_eq, bne_iff_ne, ne_eq, inI64, List.length_append] at *) <;> omega)
          refine end_ret rfl ?_
          simp only [fin, go_sem, Int.cast_ofNat_Int, Nat.reduceEqDiff, reduceIte, Nat.reduceAdd, Nat.reduceMul, Nat.reduceLeDiff, Nat.reduceSub, Nat.reduceLT, Nat.zero_lt_succ, Int.reduceToNat, Int.reduceAdd, Int.reduceSub, Int.reduceMul, Int.reduceNeg, Int.reduceLT, Int.reduceLE, Int.reduceEq, Int.reduceBEq, Int.reduceBNe, Nat.reduceBEq, List.reduceReplicate]
          exact LeA.refl _
    · have e0 : (ofE a == 0) = false := bne0 h0
      rw [if_pos h0]
      refine pc_of E24_ok mixed (fun _ => [0, 1, 2, 3, 7, 8, 9, 10, 17, 25, 38]) Try.func66 rfl (by kernel_rfl) (Nat.le_of_ble_eq_true rfl) ?_
      simp only [initF_cons, initF_nil, Nat.reduceAdd]
      refine t_name fun KF => ?_
      unfold E24
      repeat' (first
        | with_reducible refine t_seq fun K => ?_
        | with_reducible refine t_block ?_
        | with_reducible refine t_scope ?_
        | with_reducible refine t_label ?_
        | with_reducible refine t_skip ?_
        | with_reducible refine t_exit ?_
        | with_reducible refine t_ret ?_
        | with_reducible refine t_k ?_
        | (with_reducible refine t_gF ?_)
        | ((first | with_reducible refine t_kE ?_ | with_reducible refine t_kD ?_ | with_reducible refine t_gS ?_ | with_reducible refine t_kL ?_ | (with_reducible refine t_kLE ?_ ?_; rotate_left) | with_reducible refine t_region fun K => ?_ | with_reducible refine t_draw (by kernel_rfl) fun K => ?_); simp only [go_sem, Int.cast_ofNat_Int, Nat.reduceEqDiff, reduceIte, Nat.reduceAdd, Nat.reduceMul, Nat.reduceLeDiff, Nat.reduceSub, Nat.reduceLT, Nat.zero_lt_succ, Int.reduceToNat, Int.reduceAdd, Int.reduceSub, Int.reduceMul, Int.reduceNeg, Int.reduceLT, Int.reduceLE, Int.reduceEq, Int.reduceBEq, Int.reduceBNe, Nat.reduceBEq, List.reduceReplicate, con25_f, con25_c, con59_f, con60_f, con60_c, arrV_def, arrOf_agg, slK_sl, hP, optV, e0, Bool.not_false, Bool.not_true])
        | (with_reducible exact kp_nil)
        | (with_reducible exact Kp.refl _)
        | (with_reducible exact kp_to)
        | (with_reducible refine kp_cons ?_)
        | (with_reducible refine kp_arr ?_)
        | (with_reducible refine kp_app ?_)
        | ((with_reducible refine kp_skip ?_ ?_); rfl)
        | ((with_reducible refine t_cond fun A B => ?_); simp only [go_sem, Int.cast_ofNat_Int, Nat.reduceEqDiff, reduceIte, Nat.reduceAdd, Nat.reduceMul, Nat.reduceLeDiff, Nat.reduceSub, Nat.reduceLT, Nat.zero_lt_succ, Int.reduceToNat, Int.reduceAdd, Int.reduceSub, Int.reduceMul, Int.reduceNeg, Int.reduceLT, Int.reduceLE, Int.reduceEq, Int.reduceBEq, Int.reduceBNe, Nat.reduceBEq, List.reduceReplicate, con25_f, con25_c, con59_f, con60_f, con60_c, arrV_def, arrOf_agg, slK_sl, hP, optV, e0, Bool.not_false, Bool.not_true]; first | (with_reducible refine A.h ?_) | (with_reducible refine B.h ?_) | refine And.intro (fun hc => A.h ?_) (fun hc => B.h ?_))
        | simp only [thenQ_n, thenQ_r, thenQ_e, blockQ_n, blockQ_r, blockQ_e, scopeQ_n, scopeQ_r, scopeQ_e, Nat.reduceEqDiff, reduceIte]
        | (with_reducible refine And.intro ?_ ?_)
        | with_reducible intro vr)
      all_goals try (intros; (try simp only [Bool.and_eq_true, Bool.or_eq_true, Bool.not_eq_true', decide_eq_true_eq, decide_eq_false_iff_not, beq_iff_eq, bne_iff_ne, ne_eq, inI64, List.length_append] at *) <;> omega)
      refine end_ret rfl ?_
      simp only [fin, go_sem, Int.cast_ofNat_Int, Nat.reduceEqDiff, reduceIte, Nat.reduceAdd, Nat.reduceMul, Nat.reduceLeDiff, Nat.reduceSub, Nat.reduceLT, Nat.zero_lt_succ, Int.reduceToNat, Int.reduceAdd, Int.reduceSub, Int.reduceMul, Int.reduceNeg, Int.reduceLT, Int.reduceLE, Int.reduceEq, Int.reduceBEq, Int.reduceBNe, Nat.reduceBEq, List.reduceReplicate]
      exact LeA.refl _
noncomputable def con66 : PCon Try.prog where
  f := 66
  c := fun
    | [xframe, xaxes, .lit (.int .i64 r), xa] => match slK .i64 xframe, slK .i64 xaxes, arrOf xa with | some frame, some axes, some a => some (frame.length ≤ 1000000 ∧ axes.length ≤ 1000000 ∧ inI64 r ∧ okA a, .lit (.int .i64 (checkS frame axes r a))) | _, _, _ => none
    | _ => none
  ok := by
    intro args p r hc hp
    split at hc
    · split at hc
      · rename_i hframe haxes ha
        cases hc
        exact PC.weak ((fun hp : _ ∧ _ ∧ _ ∧ _ => check_pc hp.1 hp.2.1 hp.2.2.1 hp.2.2.2) hp) ⟨slK_le hframe, slK_le haxes, LeA.refl _, arrOf_le ha, trivial⟩
      · cases hc
    · cases hc
  fk := fk66
theorem con66_f : con66.f = 66 := rfl
theorem con66_c {xframe : AV} {xaxes : AV} {r : Int} {xa : AV} : con66.c [xframe, xaxes, .lit (.int .i64 r), xa] = match slK .i64 xframe, slK .i64 xaxes, arrOf xa with | some frame, some axes, some a => some (frame.length ≤ 1000000 ∧ axes.length ≤ 1000000 ∧ inI64 r ∧ okA a, .lit (.int .i64 (checkS frame axes r a))) | _, _, _ => none := rfl
noncomputable def E25 : Env := envOf (P := Try.prog) zer (fun _ => false) (fun _ => false) [con65, con66] []
theorem E25_ok : EnvOk Try.prog E25 := envOk zer_ok
structure Lk (frame : List Int) (axs : List (List Int)) (rs : List Int) (l : List Arr) (G : Int) where
  i : Nat
  g : List AObj
  hi : i ≤ l.length
  hF : chkG frame (axs.drop i) (rs.drop i) (l.drop i) = G
set_option maxRecDepth 20000 in
set_option maxHeartbeats 4000000 in
theorem chk_pc {frame : List Int} {axs : List (List Int)} {rs : List Int} {l : List Arr} (hf : frame.length ≤ 1000000) (hx : ∀ x ∈ axs, x.length ≤ 1000000) (hm : l.length ≤ 1000000) (hr : ∀ r ∈ rs, inI64 r) (hl : ∀ a ∈ l, okA a) :
    PC Try.prog 27 [.sl false 1 (ints .i64 frame), .sl false 1 (ils axs), .sl false 1 (ints .i64 rs), .sl false 3 (arrs l)] (.lit (.int .i64 (chkS frame axs rs l))) := by
  unfold chkS
  generalize hS : sizeS frame = s
  obtain ⟨sn, se⟩ := s
  simp only
  by_cases h1 : se ≠ 0 ∧ se ≠ 3
  · have e1 : (se != 0) = true := bne_iff_ne.2 h1.1
    have e2 : (se != 3) = true := bne_iff_ne.2 h1.2
    rw [if_pos (.inl h1)]
    refine pc_of E25_ok mixed (fun _ => [0, 1, 2, 3, 8, 10, 11, 12, 13, 38, 40, 41, 42, 43, 44, 60]) Try.func27 rfl (by kernel_rfl) (Nat.le_of_ble_eq_true rfl) ?_
    simp only [initF_cons, initF_nil, Nat.reduceAdd]
    refine t_name fun KF => ?_
    unfold E25
    repeat' (first
      | with_reducible refine t_seq fun K => ?_
      | with_reducible refine t_block ?_
      | with_reducible refine t_scope ?_
      | with_reducible refine t_label ?_
      | with_reducible refine t_skip ?_
      | with_reducible refine t_exit ?_
      | with_reducible refine t_ret ?_
      | with_reducible refine t_k ?_
      | (with_reducible refine t_gF ?_)
      | ((first | with_reducible refine t_kE ?_ | with_reducible refine t_kD ?_ | with_reducible refine t_gS ?_ | with_reducible refine t_kL ?_ | (with_reducible refine t_kLE ?_ ?_; rotate_left) | with_reducible refine t_region fun K => ?_ | with_reducible refine t_draw (by kernel_rfl) fun K => ?_); simp only [go_sem, Int.cast_ofNat_Int, Nat.reduceEqDiff, reduceIte, Nat.reduceAdd, Nat.reduceMul, Nat.reduceLeDiff, Nat.reduceSub, Nat.reduceLT, Nat.zero_lt_succ, Int.reduceToNat, Int.reduceAdd, Int.reduceSub, Int.reduceMul, Int.reduceNeg, Int.reduceLT, Int.reduceLE, Int.reduceEq, Int.reduceBEq, Int.reduceBNe, Nat.reduceBEq, List.reduceReplicate, con65_f, con66_f, con65_c, arrs_length, ils_length, slK_sl, szV_def, hS, e1, e2])
      | (with_reducible exact kp_nil)
      | (with_reducible exact Kp.refl _)
      | (with_reducible exact kp_to)
      | (with_reducible refine kp_cons ?_)
      | (with_reducible refine kp_arr ?_)
      | (with_reducible refine kp_app ?_)
      | ((with_reducible refine kp_skip ?_ ?_); rfl)
      | ((with_reducible refine t_cond fun A B => ?_); simp only [go_sem, Int.cast_ofNat_Int, Nat.reduceEqDiff, reduceIte, Nat.reduceAdd, Nat.reduceMul, Nat.reduceLeDiff, Nat.reduceSub, Nat.reduceLT, Nat.zero_lt_succ, Int.reduceToNat, Int.reduceAdd, Int.reduceSub, Int.reduceMul, Int.reduceNeg, Int.reduceLT, Int.reduceLE, Int.reduceEq, Int.reduceBEq, Int.reduceBNe, Nat.reduceBEq, List.reduceReplicate, con65_f, con66_f, con65_c, arrs_length, ils_length, slK_sl, szV_def, hS, e1, e2]; first | (with_reducible refine A.h ?_) | (with_reducible refine B.h ?_) | refine And.intro (fun hc => A.h ?_) (fun hc => B.h ?_))
      | simp only [thenQ_n, thenQ_r, thenQ_e, blockQ_n, blockQ_r, blockQ_e, scopeQ_n, scopeQ_r, scopeQ_e, Nat.reduceEqDiff, reduceIte]
      | (with_reducible refine And.intro ?_ ?_)
      | with_reducible intro vr)
    all_goals try (intros; (try simp only [Bool.and_eq_true, Bool.or_eq_true, Bool.not_eq_true', decide_eq_true_eq, decide_eq_false_iff_not, beq_iff_eq, bne_iff_ne, ne_eq, inI64, List.length_append] at *) <;> omega)
    refine end_ret rfl ?_
    simp only [fin, go_sem, Int.cast_ofNat_Int, Nat.reduceEqDiff, reduceIte, Nat.reduceAdd, Nat.reduceMul, Nat.reduceLeDiff, Nat.reduceSub, Nat.reduceLT, Nat.zero_lt_succ, Int.reduceToNat, Int.reduceAdd, Int.reduceSub, Int.reduceMul, Int.reduceNeg, Int.reduceLT, Int.reduceLE, Int.reduceEq, Int.reduceBEq, Int.reduceBNe, Nat.reduceBEq, List.reduceReplicate]
    exact LeA.refl _
  · have h1' : se = 0 ∨ se = 3 := by omega
    by_cases h2 : axs.length = l.length
    · have e3 : ((axs.length : Int) != (l.length : Int)) = false := by rw [bne_eq_false_iff_eq]; omega
      by_cases h3 : rs.length = l.length
      · have e4 : ((rs.length : Int) != (l.length : Int)) = false := by rw [bne_eq_false_iff_eq]; omega
        rw [if_neg (by omega)]
        rcases h1' with rfl | rfl
        · rw [if_neg (by simp)]
          generalize hG : chkG frame axs rs l = G
          refine pc_of E25_ok mixed (fun _ => [0, 1, 2, 3, 8, 10, 11, 12, 13, 38, 40, 41, 42, 43, 44, 60]) Try.func27 rfl (by kernel_rfl) (Nat.le_of_ble_eq_true rfl) ?_
          simp only [initF_cons, initF_nil, Nat.reduceAdd]
          refine t_name fun KF => ?_
          unfold E25
          repeat' (first
            | with_reducible refine t_seq fun K => ?_
            | with_reducible refine t_block ?_
            | with_reducible refine t_scope ?_
            | with_reducible refine t_label ?_
            | with_reducible refine t_skip ?_
            | with_reducible refine t_exit ?_
            | with_reducible refine t_ret ?_
            | with_reducible refine t_k ?_
            | (with_reducible refine t_gF ?_)
            | ((first | with_reducible refine t_kE ?_ | with_reducible refine t_kD ?_ | with_reducible refine t_gS ?_ | with_reducible refine t_kL ?_ | (with_reducible refine t_kLE ?_ ?_; rotate_left) | with_reducible refine t_region fun K => ?_ | with_reducible refine t_draw (by kernel_rfl) fun K => ?_); simp only [go_sem, Int.cast_ofNat_Int, Nat.reduceEqDiff, reduceIte, Nat.reduceAdd, Nat.reduceMul, Nat.reduceLeDiff, Nat.reduceSub, Nat.reduceLT, Nat.zero_lt_succ, Int.reduceToNat, Int.reduceAdd, Int.reduceSub, Int.reduceMul, Int.reduceNeg, Int.reduceLT, Int.reduceLE, Int.reduceEq, Int.reduceBEq, Int.reduceBNe, Nat.reduceBEq, List.reduceReplicate, con65_f, con66_f, con65_c, arrs_length, ils_length, slK_sl, szV_def, hS, e3, e4])
            | (with_reducible exact kp_nil)
            | (with_reducible exact Kp.refl _)
            | (with_reducible exact kp_to)
            | (with_reducible refine kp_cons ?_)
            | (with_reducible refine kp_arr ?_)
            | (with_reducible refine kp_app ?_)
            | ((with_reducible refine kp_skip ?_ ?_); rfl)
            | ((with_reducible refine t_cond fun A B => ?_); simp only [go_sem, Int.cast_ofNat_Int, Nat.reduceEqDiff, reduceIte, Nat.reduceAdd, Nat.reduceMul, Nat.reduceLeDiff, Nat.reduceSub, Nat.reduceLT, Nat.zero_lt_succ, Int.reduceToNat, Int.reduceAdd, Int.reduceSub, Int.reduceMul, Int.reduceNeg, Int.reduceLT, Int.reduceLE, Int.reduceEq, Int.reduceBEq, Int.reduceBNe, Nat.reduceBEq, List.reduceReplicate, con65_f, con66_f, con65_c, arrs_length, ils_length, slK_sl, szV_def, hS, e3, e4]; first | (with_reducible refine A.h ?_) | (with_reducible refine B.h ?_) | refine And.intro (fun hc => A.h ?_) (fun hc => B.h ?_))
            | simp only [thenQ_n, thenQ_r, thenQ_e, blockQ_n, blockQ_r, blockQ_e, scopeQ_n, scopeQ_r, scopeQ_e, Nat.reduceEqDiff, reduceIte]
            | (with_reducible refine And.intro ?_ ?_)
            | with_reducible intro vr)
          all_goals try (intros; (try simp only [Bool.and_eq_true, Bool.or_eq_true, Bool.not_eq_true', decide_eq_true_eq, decide_eq_false_iff_not, beq_iff_eq, bne_iff_ne, ne_eq, inI64, List.length_append] at *) <;> omega)
          refine t_loop (ι := Lk frame axs rs l G) (fun i => ⟨upd (upd (upd (upd (upd (upd topF 43 (.lit (.int .i64 i.i))) 42 (.lit (.int .i64 l.length))) 41 (.sl false 3 (arrs l))) 2 (.sl false 1 (ints .i64 rs))) 1 (.sl false 1 (ils axs))) 0 (.sl false 1 (ints .i64 frame)), i.g⟩) (fun i => l.length - i.i) ⟨0, [], by omega, hG⟩ ?_ ?_
          · skip
            (refine Le.frame ?_; repeat' (first | exact leF_top _ | (with_reducible refine leF_sl ?_ ?_) | (refine leF_upd (LeR.of_eq ?_) ?_))) <;> (try (simp only [go_sem, Int.cast_ofNat_Int, Nat.reduceEqDiff, reduceIte, Nat.reduceAdd, Nat.reduceMul, Nat.reduceLeDiff, Nat.reduceSub, Nat.reduceLT, Nat.zero_lt_succ, Int.reduceToNat, Int.reduceAdd, Int.reduceSub, Int.reduceMul, Int.reduceNeg, Int.reduceLT, Int.reduceLE, Int.reduceEq, Int.reduceBEq, Int.reduceBNe, Nat.reduceBEq, List.reduceReplicate]; try rfl))
          · rintro ⟨i, g, hi, hF⟩ K0
            have k1 : ∀ (X : AObj), (g ++ [X])[g.length]? = some X := fun X => getA0 rfl
            have k2 : ∀ (X Y : AObj), (g ++ [X]).set g.length Y = g ++ [Y] := fun X Y => setA0 rfl
            rcases Nat.lt_or_ge i l.length with hc | hc
            · have g1 : decide ((i : Int) < (l.length : Int)) = true := decide_eq_true (by omega)
              have g2 := arrs_getD l i hc
              have g3 := ints_getD .i64 rs i (by omega)
              have g4 := ils_getD axs i (by omega)
              have ha := hl _ (getD_mem nilA hc)
              have hr' := hr _ (getD_mem 0 (show i < rs.length by omega))
              have hx' := hx _ (getD_mem [] (show i < axs.length by omega))
              rw [drop_getD nilA hc, drop_getD 0 (show i < rs.length by omega), drop_getD [] (show i < axs.length by omega), chkG] at hF
              generalize l.getD i nilA = a at g2 hF ha
              generalize rs.getD i 0 = r at g3 hF hr'
              generalize axs.getD i [] = ax at g4 hF hx'
              generalize hC : checkS frame ax r a = c at hF
              by_cases c0 : c = 0
              · subst c0
                rw [if_neg (by simp)] at hF
                repeat' (first
                  | with_reducible refine t_seq fun K => ?_
                  | with_reducible refine t_block ?_
                  | with_reducible refine t_scope ?_
                  | with_reducible refine t_label ?_
                  | with_reducible refine t_skip ?_
                  | with_reducible refine t_exit ?_
                  | with_reducible refine t_ret ?_
                  | with_reducible refine t_k ?_
                  | (with_reducible refine t_gF ?_)
                  | ((first | with_reducible refine t_kE ?_ | with_reducible refine t_kD ?_ | with_reducible refine t_gS ?_ | with_reducible refine t_kL ?_ | (with_reducible refine t_kLE ?_ ?_; rotate_left) | with_reducible refine t_region fun K => ?_ | with_reducible refine t_draw (by kernel_rfl) fun K => ?_); simp only [go_sem, Int.cast_ofNat_Int, Nat.reduceEqDiff, reduceIte, Nat.reduceAdd, Nat.reduceMul, Nat.reduceLeDiff, Nat.reduceSub, Nat.reduceLT, Nat.zero_lt_succ, Int.reduceToNat, Int.reduceAdd, Int.reduceSub, Int.reduceMul, Int.reduceNeg, Int.reduceLT, Int.reduceLE, Int.reduceEq, Int.reduceBEq, Int.reduceBNe, Nat.reduceBEq, List.reduceReplicate, con65_f, con66_f, con66_c, g1, g2, g3, g4, k1, k2, hC, arrs_length, ils_length, arrV_def, arrOf_agg, slK_sl, Int.toNat_natCast])
                  | (with_reducible exact kp_nil)
                  | (with_reducible exact Kp.refl _)
                  | (with_reducible exact kp_to)
                  | (with_reducible refine kp_cons ?_)
                  | (with_reducible refine kp_arr ?_)
                  | (with_reducible refine kp_app ?_)
                  | ((with_reducible refine kp_skip ?_ ?_); rfl)
                  | ((with_reducible refine t_cond fun A B => ?_); simp only [go_sem, Int.cast_ofNat_Int, Nat.reduceEqDiff, reduceIte, Nat.reduceAdd, Nat.reduceMul, Nat.reduceLeDiff, Nat.reduceSub, Nat.reduceLT, Nat.zero_lt_succ, Int.reduceToNat, Int.reduceAdd, Int.reduceSub, Int.reduceMul, Int.reduceNeg, Int.reduceLT, Int.reduceLE, Int.reduceEq, Int.reduceBEq, Int.reduceBNe, Nat.reduceBEq, List.reduceReplicate, con65_f, con66_f, con66_c, g1, g2, g3, g4, k1, k2, hC, arrs_length, ils_length, arrV_def, arrOf_agg, slK_sl, Int.toNat_natCast]; first | (with_reducible refine A.h ?_) | (with_reducible refine B.h ?_) | refine And.intro (fun hc => A.h ?_) (fun hc => B.h ?_))
                  | simp only [thenQ_n, thenQ_r, thenQ_e, blockQ_n, blockQ_r, blockQ_e, scopeQ_n, scopeQ_r, scopeQ_e, Nat.reduceEqDiff, reduceIte]
                  | (with_reducible refine And.intro ?_ ?_)
                  | with_reducible intro vr)
                all_goals try (intros; (try simp only [Bool.and_eq_true, Bool.or_eq_true, Bool.not_eq_true', decide_eq_true_eq, decide_eq_false_iff_not, beq_iff_eq, bne_iff_ne, ne_eq, inI64, List.length_append] at *) <;> omega)
                all_goals try first | exact ha | exact hr' | exact hx'
                refine ⟨⟨i + 1, g ++ [.box 33 [.lit (.string a.e), .sl false 1 (ints .i64 a.d), .sl false 1 (ints .i64 a.x)]], by omega, hF⟩, by simp only; omega, ?_⟩
                (refine Le.frame ?_; repeat' (first | exact leF_top _ | (with_reducible refine leF_sl ?_ ?_) | (refine leF_upd (LeR.of_eq ?_) ?_))) <;> (try (simp only [go_sem, Int.cast_ofNat_Int, Nat.reduceEqDiff, reduceIte, Nat.reduceAdd, Nat.reduceMul, Nat.reduceLeDiff, Nat.reduceSub, Nat.reduceLT, Nat.zero_lt_succ, Int.reduceToNat, Int.reduceAdd, Int.reduceSub, Int.reduceMul, Int.reduceNeg, Int.reduceLT, Int.reduceLE, Int.reduceEq, Int.reduceBEq, Int.reduceBNe, Nat.reduceBEq, List.reduceReplicate]; try rfl))
              · have c1 : (c != 0) = true := bne_iff_ne.2 c0
                rw [if_pos c0] at hF
                subst hF
                repeat' (first
                  | with_reducible refine t_seq fun K => ?_
                  | with_reducible refine t_block ?_
                  | with_reducible refine t_scope ?_
                  | with_reducible refine t_label ?_
                  | with_reducible refine t_skip ?_
                  | with_reducible refine t_exit ?_
                  | with_reducible refine t_ret ?_
                  | with_reducible refine t_k ?_
                  | (with_reducible refine t_gF ?_)
                  | ((first | with_reducible refine t_kE ?_ | with_reducible refine t_kD ?_ | with_reducible refine t_gS ?_ | with_reducible refine t_kL ?_ | (with_reducible refine t_kLE ?_ ?_; rotate_left) | with_reducible refine t_region fun K => ?_ | with_reducible refine t_draw (by kernel_rfl) fun K => ?_); simp only [go_sem, Int.cast_ofNat_Int, Nat.reduceEqDiff, reduceIte, Nat.reduceAdd, Nat.reduceMul, Nat.reduceLeDiff, Nat.reduceSub, Nat.reduceLT, Nat.zero_lt_succ, Int.reduceToNat, Int.reduceAdd, Int.reduceSub, Int.reduceMul, Int.reduceNeg, Int.reduceLT, Int.reduceLE, Int.reduceEq, Int.reduceBEq, Int.reduceBNe, Nat.reduceBEq, List.reduceReplicate, con65_f, con66_f, con66_c, g1, g2, g3, g4, k1, k2, hC, c1, arrs_length, ils_length, arrV_def, arrOf_agg, slK_sl, Int.toNat_natCast])
                  | (with_reducible exact kp_nil)
                  | (with_reducible exact Kp.refl _)
                  | (with_reducible exact kp_to)
                  | (with_reducible refine kp_cons ?_)
                  | (with_reducible refine kp_arr ?_)
                  | (with_reducible refine kp_app ?_)
                  | ((with_reducible refine kp_skip ?_ ?_); rfl)
                  | ((with_reducible refine t_cond fun A B => ?_); simp only [go_sem, Int.cast_ofNat_Int, Nat.reduceEqDiff, reduceIte, Nat.reduceAdd, Nat.reduceMul, Nat.reduceLeDiff, Nat.reduceSub, Nat.reduceLT, Nat.zero_lt_succ, Int.reduceToNat, Int.reduceAdd, Int.reduceSub, Int.reduceMul, Int.reduceNeg, Int.reduceLT, Int.reduceLE, Int.reduceEq, Int.reduceBEq, Int.reduceBNe, Nat.reduceBEq, List.reduceReplicate, con65_f, con66_f, con66_c, g1, g2, g3, g4, k1, k2, hC, c1, arrs_length, ils_length, arrV_def, arrOf_agg, slK_sl, Int.toNat_natCast]; first | (with_reducible refine A.h ?_) | (with_reducible refine B.h ?_) | refine And.intro (fun hc => A.h ?_) (fun hc => B.h ?_))
                  | simp only [thenQ_n, thenQ_r, thenQ_e, blockQ_n, blockQ_r, blockQ_e, scopeQ_n, scopeQ_r, scopeQ_e, Nat.reduceEqDiff, reduceIte]
                  | (with_reducible refine And.intro ?_ ?_)
                  | with_reducible intro vr)
                all_goals try (intros; (try simp only [Bool.and_eq_true, Bool.or_eq_true, Bool.not_eq_true', decide_eq_true_eq, decide_eq_false_iff_not, beq_iff_eq, bne_iff_ne, ne_eq, inI64, List.length_append] at *) <;> omega)
                all_goals try first | exact ha | exact hr' | exact hx'
                refine end_ret rfl ?_
                simp only [fin, go_sem, Int.cast_ofNat_Int, Nat.reduceEqDiff, reduceIte, Nat.reduceAdd, Nat.reduceMul, Nat.reduceLeDiff, Nat.reduceSub, Nat.reduceLT, Nat.zero_lt_succ, Int.reduceToNat, Int.reduceAdd, Int.reduceSub, Int.reduceMul, Int.reduceNeg, Int.reduceLT, Int.reduceLE, Int.reduceEq, Int.reduceBEq, Int.reduceBNe, Nat.reduceBEq, List.reduceReplicate]
                exact LeA.refl _
            · have g1 : decide ((i : Int) < (l.length : Int)) = false := decide_eq_false (by omega)
              rw [List.drop_eq_nil_of_le hc, chkG] at hF
              · subst hF
                repeat' (first
                  | with_reducible refine t_seq fun K => ?_
                  | with_reducible refine t_block ?_
                  | with_reducible refine t_scope ?_
                  | with_reducible refine t_label ?_
                  | with_reducible refine t_skip ?_
                  | with_reducible refine t_exit ?_
                  | with_reducible refine t_ret ?_
                  | with_reducible refine t_k ?_
                  | (with_reducible refine t_gF ?_)
                  | ((first | with_reducible refine t_kE ?_ | with_reducible refine t_kD ?_ | with_reducible refine t_gS ?_ | with_reducible refine t_kL ?_ | (with_reducible refine t_kLE ?_ ?_; rotate_left) | with_reducible refine t_region fun K => ?_ | with_reducible refine t_draw (by kernel_rfl) fun K => ?_); simp only [go_sem, Int.cast_ofNat_Int, Nat.reduceEqDiff, reduceIte, Nat.reduceAdd, Nat.reduceMul, Nat.reduceLeDiff, Nat.reduceSub, Nat.reduceLT, Nat.zero_lt_succ, Int.reduceToNat, Int.reduceAdd, Int.reduceSub, Int.reduceMul, Int.reduceNeg, Int.reduceLT, Int.reduceLE, Int.reduceEq, Int.reduceBEq, Int.reduceBNe, Nat.reduceBEq, List.reduceReplicate, con65_f, con66_f, g1, arrs_length])
                  | (with_reducible exact kp_nil)
                  | (with_reducible exact Kp.refl _)
                  | (with_reducible exact kp_to)
                  | (with_reducible refine kp_cons ?_)
                  | (with_reducible refine kp_arr ?_)
                  | (with_reducible refine kp_app ?_)
                  | ((with_reducible refine kp_skip ?_ ?_); rfl)
                  | ((with_reducible refine t_cond fun A B => ?_); simp only [go_sem, Int.cast_ofNat_Int, Nat.reduceEqDiff, reduceIte, Nat.reduceAdd, Nat.reduceMul, Nat.reduceLeDiff, Nat.reduceSub, Nat.reduceLT, Nat.zero_lt_succ, Int.reduceToNat, Int.reduceAdd, Int.reduceSub, Int.reduceMul, Int.reduceNeg, Int.reduceLT, Int.reduceLE, Int.reduceEq, Int.reduceBEq, Int.reduceBNe, Nat.reduceBEq, List.reduceReplicate, con65_f, con66_f, g1, arrs_length]; first | (with_reducible refine A.h ?_) | (with_reducible refine B.h ?_) | refine And.intro (fun hc => A.h ?_) (fun hc => B.h ?_))
                  | simp only [thenQ_n, thenQ_r, thenQ_e, blockQ_n, blockQ_r, blockQ_e, scopeQ_n, scopeQ_r, scopeQ_e, Nat.reduceEqDiff, reduceIte]
                  | (with_reducible refine And.intro ?_ ?_)
                  | with_reducible intro vr)
                all_goals try (intros; (try simp only [Bool.and_eq_true, Bool.or_eq_true, Bool.not_eq_true', decide_eq_true_eq, decide_eq_false_iff_not, beq_iff_eq, bne_iff_ne, ne_eq, inI64, List.length_append] at *) <;> omega)
                refine end_ret rfl ?_
                simp only [fin, go_sem, Int.cast_ofNat_Int, Nat.reduceEqDiff, reduceIte, Nat.reduceAdd, Nat.reduceMul, Nat.reduceLeDiff, Nat.reduceSub, Nat.reduceLT, Nat.zero_lt_succ, Int.reduceToNat, Int.reduceAdd, Int.reduceSub, Int.reduceMul, Int.reduceNeg, Int.reduceLT, Int.reduceLE, Int.reduceEq, Int.reduceBEq, Int.reduceBNe, Nat.reduceBEq, List.reduceReplicate]
                exact LeA.refl _
              · intro _ _ _ _ _ _ _ _ h; cases h
        · rw [if_pos (by decide)]
          refine pc_of E25_ok mixed (fun _ => [0, 1, 2, 3, 8, 10, 11, 12, 13, 38, 40, 41, 42, 43, 44, 60]) Try.func27 rfl (by kernel_rfl) (Nat.le_of_ble_eq_true rfl) ?_
          simp only [initF_cons, initF_nil, Nat.reduceAdd]
          refine t_name fun KF => ?_
          unfold E25
          repeat' (first
            | with_reducible refine t_seq fun K => ?_
            | with_reducible refine t_block ?_
            | with_reducible refine t_scope ?_
            | with_reducible refine t_label ?_
            | with_reducible refine t_skip ?_
            | with_reducible refine t_exit ?_
            | with_reducible refine t_ret ?_
            | with_reducible refine t_k ?_
            | (with_reducible refine t_gF ?_)
            | ((first | with_reducible refine t_kE ?_ | with_reducible refine t_kD ?_ | with_reducible refine t_gS ?_ | with_reducible refine t_kL ?_ | (with_reducible refine t_kLE ?_ ?_; rotate_left) | with_reducible refine t_region fun K => ?_ | with_reducible refine t_draw (by kernel_rfl) fun K => ?_); simp only [go_sem, Int.cast_ofNat_Int, Nat.reduceEqDiff, reduceIte, Nat.reduceAdd, Nat.reduceMul, Nat.reduceLeDiff, Nat.reduceSub, Nat.reduceLT, Nat.zero_lt_succ, Int.reduceToNat, Int.reduceAdd, Int.reduceSub, Int.reduceMul, Int.reduceNeg, Int.reduceLT, Int.reduceLE, Int.reduceEq, Int.reduceBEq, Int.reduceBNe, Nat.reduceBEq, List.reduceReplicate, con65_f, con66_f, con65_c, arrs_length, ils_length, slK_sl, szV_def, hS, e3, e4])
            | (with_reducible exact kp_nil)
            | (with_reducible exact Kp.refl _)
            | (with_reducible exact kp_to)
            | (with_reducible refine kp_cons ?_)
            | (with_reducible refine kp_arr ?_)
            | (with_reducible refine kp_app ?_)
            | ((with_reducible refine kp_skip ?_ ?_); rfl)
            | ((with_reducible refine t_cond fun A B => ?_); simp only [go_sem, Int.cast_ofNat_Int, Nat.reduceEqDiff, reduceIte, Nat.reduceAdd, Nat.reduceMul, Nat.reduceLeDiff, Nat.reduceSub, Nat.reduceLT, Nat.zero_lt_succ, Int.reduceToNat, Int.reduceAdd, Int.reduceSub, Int.reduceMul, Int.reduceNeg, Int.reduceLT, Int.reduceLE, Int.reduceEq, Int.reduceBEq, Int.reduceBNe, Nat.reduceBEq, List.reduceReplicate, con65_f, con66_f, con65_c, arrs_length, ils_length, slK_sl, szV_def, hS, e3, e4]; first | (with_reducible refine A.h ?_) | (with_reducible refine B.h ?_) | refine And.intro (fun hc => A.h ?_) (fun hc => B.h ?_))
            | simp only [thenQ_n, thenQ_r, thenQ_e, blockQ_n, blockQ_r, blockQ_e, scopeQ_n, scopeQ_r, scopeQ_e, Nat.reduceEqDiff, reduceIte]
            | (with_reducible refine And.intro ?_ ?_)
            | with_reducible intro vr)
          all_goals try (intros; (try simp only [Bool.and_eq_true, Bool.or_eq_true, Bool.not_eq_true', decide_eq_true_eq, decide_eq_false_iff_not, beq_iff_eq, bne_iff_ne, ne_eq, inI64, List.length_append] at *) <;> omega)
          refine end_ret rfl ?_
          simp only [fin, go_sem, Int.cast_ofNat_Int, Nat.reduceEqDiff, reduceIte, Nat.reduceAdd, Nat.reduceMul, Nat.reduceLeDiff, Nat.reduceSub, Nat.reduceLT, Nat.zero_lt_succ, Int.reduceToNat, Int.reduceAdd, Int.reduceSub, Int.reduceMul, Int.reduceNeg, Int.reduceLT, Int.reduceLE, Int.reduceEq, Int.reduceBEq, Int.reduceBNe, Nat.reduceBEq, List.reduceReplicate]
          exact LeA.refl _
      · have e4 : ((rs.length : Int) != (l.length : Int)) = true := bne_iff_ne.2 (by omega)
        rw [if_pos (.inr (.inr h3))]
        rcases h1' with rfl | rfl
        · skip
          refine pc_of E25_ok mixed (fun _ => [0, 1, 2, 3, 8, 10, 11, 12, 13, 38, 40, 41, 42, 43, 44, 60]) Try.func27 rfl (by kernel_rfl) (Nat.le_of_ble_eq_true rfl) ?_
          simp only [initF_cons, initF_nil, Nat.reduceAdd]
          refine t_name fun KF => ?_
          unfold E25
          repeat' (first
            | with_reducible refine t_seq fun K => ?_
            | with_reducible refine t_block ?_
            | with_reducible refine t_scope ?_
            | with_reducible refine t_label ?_
            | with_reducible refine t_skip ?_
            | with_reducible refine t_exit ?_
            | with_reducible refine t_ret ?_
            | with_reducible refine t_k ?_
            | (with_reducible refine t_gF ?_)
            | ((first | with_reducible refine t_kE ?_ | with_reducible refine t_kD ?_ | with_reducible refine t_gS ?_ | with_reducible refine t_kL ?_ | (with_reducible refine t_kLE ?_ ?_; rotate_left) | with_reducible refine t_region fun K => ?_ | with_reducible refine t_draw (by kernel_rfl) fun K => ?_); simp only [go_sem, Int.cast_ofNat_Int, Nat.reduceEqDiff, reduceIte, Nat.reduceAdd, Nat.reduceMul, Nat.reduceLeDiff, Nat.reduceSub, Nat.reduceLT, Nat.zero_lt_succ, Int.reduceToNat, Int.reduceAdd, Int.reduceSub, Int.reduceMul, Int.reduceNeg, Int.reduceLT, Int.reduceLE, Int.reduceEq, Int.reduceBEq, Int.reduceBNe, Nat.reduceBEq, List.reduceReplicate, con65_f, con66_f, con65_c, arrs_length, ils_length, slK_sl, szV_def, hS, e3, e4])
            | (with_reducible exact kp_nil)
            | (with_reducible exact Kp.refl _)
            | (with_reducible exact kp_to)
            | (with_reducible refine kp_cons ?_)
            | (with_reducible refine kp_arr ?_)
            | (with_reducible refine kp_app ?_)
            | ((with_reducible refine kp_skip ?_ ?_); rfl)
            | ((with_reducible refine t_cond fun A B => ?_); simp only [go_sem, Int.cast_ofNat_Int, Nat.reduceEqDiff, reduceIte, Nat.reduceAdd, Nat.reduceMul, Nat.reduceLeDiff, Nat.reduceSub, Nat.reduceLT, Nat.zero_lt_succ, Int.reduceToNat, Int.reduceAdd, Int.reduceSub, Int.reduceMul, Int.reduceNeg, Int.reduceLT, Int.reduceLE, Int.reduceEq, Int.reduceBEq, Int.reduceBNe, Nat.reduceBEq, List.reduceReplicate, con65_f, con66_f, con65_c, arrs_length, ils_length, slK_sl, szV_def, hS, e3, e4]; first | (with_reducible refine A.h ?_) | (with_reducible refine B.h ?_) | refine And.intro (fun hc => A.h ?_) (fun hc => B.h ?_))
            | simp only [thenQ_n, thenQ_r, thenQ_e, blockQ_n, blockQ_r, blockQ_e, scopeQ_n, scopeQ_r, scopeQ_e, Nat.reduceEqDiff, reduceIte]
            | (with_reducible refine And.intro ?_ ?_)
            | with_reducible intro vr)
          all_goals try (intros; (try simp only [Bool.and_eq_true, Bool.or_eq_true, Bool.not_eq_true', decide_eq_true_eq, decide_eq_false_iff_not, beq_iff_eq, bne_iff_ne, ne_eq, inI64, List.length_append] at *) <;> omega)
          refine end_ret rfl ?_
          simp only [fin, go_sem, Int.cast_ofNat_Int, Nat.reduceEqDiff, reduceIte, Nat.reduceAdd, Nat.reduceMul, Nat.reduceLeDiff, Nat.reduceSub, Nat.reduceLT, Nat.zero_lt_succ, Int.reduceToNat, Int.reduceAdd, Int.reduceSub, Int.reduceMul, Int.reduceNeg, Int.reduceLT, Int.reduceLE, Int.reduceEq, Int.reduceBEq, Int.reduceBNe, Nat.reduceBEq, List.reduceReplicate]
          exact LeA.refl _
        · skip
          refine pc_of E25_ok mixed (fun _ => [0, 1, 2, 3, 8, 10, 11, 12, 13, 38, 40, 41, 42, 43, 44, 60]) Try.func27 rfl (by kernel_rfl) (Nat.le_of_ble_eq_true rfl) ?_
          simp only [initF_cons, initF_nil, Nat.reduceAdd]
          refine t_name fun KF => ?_
          unfold E25
          repeat' (first
            | with_reducible refine t_seq fun K => ?_
            | with_reducible refine t_block ?_
            | with_reducible refine t_scope ?_
            | with_reducible refine t_label ?_
            | with_reducible refine t_skip ?_
            | with_reducible refine t_exit ?_
            | with_reducible refine t_ret ?_
            | with_reducible refine t_k ?_
            | (with_reducible refine t_gF ?_)
            | ((first | with_reducible refine t_kE ?_ | with_reducible refine t_kD ?_ | with_reducible refine t_gS ?_ | with_reducible refine t_kL ?_ | (with_reducible refine t_kLE ?_ ?_; rotate_left) | with_reducible refine t_region fun K => ?_ | with_reducible refine t_draw (by kernel_rfl) fun K => ?_); simp only [go_sem, Int.cast_ofNat_Int, Nat.reduceEqDiff, reduceIte, Nat.reduceAdd, Nat.reduceMul, Nat.reduceLeDiff, Nat.reduceSub, Nat.reduceLT, Nat.zero_lt_succ, Int.reduceToNat, Int.reduceAdd, Int.reduceSub, Int.reduceMul, Int.reduceNeg, Int.reduceLT, Int.reduceLE, Int.reduceEq, Int.reduceBEq, Int.reduceBNe, Nat.reduceBEq, List.reduceReplicate, con65_f, con66_f, con65_c, arrs_length, ils_length, slK_sl, szV_def, hS, e3, e4])
            | (with_reducible exact kp_nil)
            | (with_reducible exact Kp.refl _)
            | (with_reducible exact kp_to)
            | (with_reducible refine kp_cons ?_)
            | (with_reducible refine kp_arr ?_)
            | (with_reducible refine kp_app ?_)
            | ((with_reducible refine kp_skip ?_ ?_); rfl)
            | ((with_reducible refine t_cond fun A B => ?_); simp only [go_sem, Int.cast_ofNat_Int, Nat.reduceEqDiff, reduceIte, Nat.reduceAdd, Nat.reduceMul, Nat.reduceLeDiff, Nat.reduceSub, Nat.reduceLT, Nat.zero_lt_succ, Int.reduceToNat, Int.reduceAdd, Int.reduceSub, Int.reduceMul, Int.reduceNeg, Int.reduceLT, Int.reduceLE, Int.reduceEq, Int.reduceBEq, Int.reduceBNe, Nat.reduceBEq, List.reduceReplicate, con65_f, con66_f, con65_c, arrs_length, ils_length, slK_sl, szV_def, hS, e3, e4]; first | (with_reducible refine A.h ?_) | (with_reducible refine B.h ?_) | refine And.intro (fun hc => A.h ?_) (fun hc => B.h ?_))
            | simp only [thenQ_n, thenQ_r, thenQ_e, blockQ_n, blockQ_r, blockQ_e, scopeQ_n, scopeQ_r, scopeQ_e, Nat.reduceEqDiff, reduceIte]
            | (with_reducible refine And.intro ?_ ?_)
            | with_reducible intro vr)
          all_goals try (intros; (try simp only [Bool.and_eq_true, Bool.or_eq_true, Bool.not_eq_true', decide_eq_true_eq, decide_eq_false_iff_not, beq_iff_eq, bne_iff_ne, ne_eq, inI64, List.length_append] at *) <;> omega)
          refine end_ret rfl ?_
          simp only [fin, go_sem, Int.cast_ofNat_Int, Nat.reduceEqDiff, reduceIte, Nat.reduceAdd, Nat.reduceMul, Nat.reduceLeDiff, Nat.reduceSub, Nat.reduceLT, Nat.zero_lt_succ, Int.reduceToNat, Int.reduceAdd, Int.reduceSub, Int.reduceMul, Int.reduceNeg, Int.reduceLT, Int.reduceLE, Int.reduceEq, Int.reduceBEq, Int.reduceBNe, Nat.reduceBEq, List.reduceReplicate]
          exact LeA.refl _
    · have e3 : ((axs.length : Int) != (l.length : Int)) = true := bne_iff_ne.2 (by omega)
      rw [if_pos (.inr (.inl h2))]
      rcases h1' with rfl | rfl
      · skip
        refine pc_of E25_ok mixed (fun _ => [0, 1, 2, 3, 8, 10, 11, 12, 13, 38, 40, 41, 42, 43, 44, 60]) Try.func27 rfl (by kernel_rfl) (Nat.le_of_ble_eq_true rfl) ?_
        simp only [initF_cons, initF_nil, Nat.reduceAdd]
        refine t_name fun KF => ?_
        unfold E25
        repeat' (first
          | with_reducible refine t_seq fun K => ?_
          | with_reducible refine t_block ?_
          | with_reducible refine t_scope ?_
          | with_reducible refine t_label ?_
          | with_reducible refine t_skip ?_
          | with_reducible refine t_exit ?_
          | with_reducible refine t_ret ?_
          | with_reducible refine t_k ?_
          | (with_reducible refine t_gF ?_)
          | ((first | with_reducible refine t_kE ?_ | with_reducible refine t_kD ?_ | with_reducible refine t_gS ?_ | with_reducible refine t_kL ?_ | (with_reducible refine t_kLE ?_ ?_; rotate_left) | with_reducible refine t_region fun K => ?_ | with_reducible refine t_draw (by kernel_rfl) fun K => ?_); simp only [go_sem, Int.cast_ofNat_Int, Nat.reduceEqDiff, reduceIte, Nat.reduceAdd, Nat.reduceMul, Nat.reduceLeDiff, Nat.reduceSub, Nat.reduceLT, Nat.zero_lt_succ, Int.reduceToNat, Int.reduceAdd, Int.reduceSub, Int.reduceMul, Int.reduceNeg, Int.reduceLT, Int.reduceLE, Int.reduceEq, Int.reduceBEq, Int.reduceBNe, Nat.reduceBEq, List.reduceReplicate, con65_f, con66_f, con65_c, arrs_length, ils_length, slK_sl, szV_def, hS, e3])
          | (with_reducible exact kp_nil)
          | (with_reducible exact Kp.refl _)
          | (with_reducible exact kp_to)
          | (with_reducible refine kp_cons ?_)
          | (with_reducible refine kp_arr ?_)
          | (with_reducible refine kp_app ?_)
          | ((with_reducible refine kp_skip ?_ ?_); rfl)
          | ((with_reducible refine t_cond fun A B => ?_); simp only [go_sem, Int.cast_ofNat_Int, Nat.reduceEqDiff, reduceIte, Nat.reduceAdd, Nat.reduceMul, Nat.reduceLeDiff, Nat.reduceSub, Nat.reduceLT, Nat.zero_lt_succ, Int.reduceToNat, Int.reduceAdd, Int.reduceSub, Int.reduceMul, Int.reduceNeg, Int.reduceLT, Int.reduceLE, Int.reduceEq, Int.reduceBEq, Int.reduceBNe, Nat.reduceBEq, List.reduceReplicate, con65_f, con66_f, con65_c, arrs_length, ils_length, slK_sl, szV_def, hS, e3]; first | (with_reducible refine A.h ?_) | (with_reducible refine B.h ?_) | refine And.intro (fun hc => A.h ?_) (fun hc => B.h ?_))
          | simp only [thenQ_n, thenQ_r, thenQ_e, blockQ_n, blockQ_r, blockQ_e, scopeQ_n, scopeQ_r, scopeQ_e, Nat.reduceEqDiff, reduceIte]
          | (with_reducible refine And.intro ?_ ?_)
          | with_reducible intro vr)
        all_goals try (intros; (try simp only [Bool.and_eq_true, Bool.or_eq_true, Bool.not_eq_true', decide_eq_true_eq, decide_eq_false_iff_not, beq_iff_eq, bne_iff_ne, ne_eq, inI64, List.length_append] at *) <;> omega)
        refine end_ret rfl ?_
        simp only [fin, go_sem, Int.cast_ofNat_Int, Nat.reduceEqDiff, reduceIte, Nat.reduceAdd, Nat.reduceMul, Nat.reduceLeDiff, Nat.reduceSub, Nat.reduceLT, Nat.zero_lt_succ, Int.reduceToNat, Int.reduceAdd, Int.reduceSub, Int.reduceMul, Int.reduceNeg, Int.reduceLT, Int.reduceLE, Int.reduceEq, Int.reduceBEq, Int.reduceBNe, Nat.reduceBEq, List.reduceReplicate]
        exact LeA.refl _
      · skip
        refine pc_of E25_ok mixed (fun _ => [0, 1, 2, 3, 8, 10, 11, 12, 13, 38, 40, 41, 42, 43, 44, 60]) Try.func27 rfl (by kernel_rfl) (Nat.le_of_ble_eq_true rfl) ?_
        simp only [initF_cons, initF_nil, Nat.reduceAdd]
        refine t_name fun KF => ?_
        unfold E25
        repeat' (first
          | with_reducible refine t_seq fun K => ?_
          | with_reducible refine t_block ?_
          | with_reducible refine t_scope ?_
          | with_reducible refine t_label ?_
          | with_reducible refine t_skip ?_
          | with_reducible refine t_exit ?_
          | with_reducible refine t_ret ?_
          | with_reducible refine t_k ?_
          | (with_reducible refine t_gF ?_)
          | ((first | with_reducible refine t_kE ?_ | with_reducible refine t_kD ?_ | with_reducible refine t_gS ?_ | with_reducible refine t_kL ?_ | (with_reducible refine t_kLE ?_ ?_; rotate_left) | with_reducible refine t_region fun K => ?_ | with_reducible refine t_draw (by kernel_rfl) fun K => ?_); simp only [go_sem, Int.cast_ofNat_Int, Nat.reduceEqDiff, reduceIte, Nat.reduceAdd, Nat.reduceMul, Nat.reduceLeDiff, Nat.reduceSub, Nat.reduceLT, Nat.zero_lt_succ, Int.reduceToNat, Int.reduceAdd, Int.reduceSub, Int.reduceMul, Int.reduceNeg, Int.reduceLT, Int.reduceLE, Int.reduceEq, Int.reduceBEq, Int.reduceBNe, Nat.reduceBEq, List.reduceReplicate, con65_f, con66_f, con65_c, arrs_length, ils_length, slK_sl, szV_def, hS, e3])
          | (with_reducible exact kp_nil)
          | (with_reducible exact Kp.refl _)
          | (with_reducible exact kp_to)
          | (with_reducible refine kp_cons ?_)
          | (with_reducible refine kp_arr ?_)
          | (with_reducible refine kp_app ?_)
          | ((with_reducible refine kp_skip ?_ ?_); rfl)
          | ((with_reducible refine t_cond fun A B => ?_); simp only [go_sem, Int.cast_ofNat_Int, Nat.reduceEqDiff, reduceIte, Nat.reduceAdd, Nat.reduceMul, Nat.reduceLeDiff, Nat.reduceSub, Nat.reduceLT, Nat.zero_lt_succ, Int.reduceToNat, Int.reduceAdd, Int.reduceSub, Int.reduceMul, Int.reduceNeg, Int.reduceLT, Int.reduceLE, Int.reduceEq, Int.reduceBEq, Int.reduceBNe, Nat.reduceBEq, List.reduceReplicate, con65_f, con66_f, con65_c, arrs_length, ils_length, slK_sl, szV_def, hS, e3]; first | (with_reducible refine A.h ?_) | (with_reducible refine B.h ?_) | refine And.intro (fun hc => A.h ?_) (fun hc => B.h ?_))
          | simp only [thenQ_n, thenQ_r, thenQ_e, blockQ_n, blockQ_r, blockQ_e, scopeQ_n, scopeQ_r, scopeQ_e, Nat.reduceEqDiff, reduceIte]
          | (with_reducible refine And.intro ?_ ?_)
          | with_reducible intro vr)
        all_goals try (intros; (try simp only [Bool.and_eq_true, Bool.or_eq_true, Bool.not_eq_true', decide_eq_true_eq, decide_eq_false_iff_not, beq_iff_eq, bne_iff_ne, ne_eq, inI64, List.length_append] at *) <;> omega)
        refine end_ret rfl ?_
        simp only [fin, go_sem, Int.cast_ofNat_Int, Nat.reduceEqDiff, reduceIte, Nat.reduceAdd, Nat.reduceMul, Nat.reduceLeDiff, Nat.reduceSub, Nat.reduceLT, Nat.zero_lt_succ, Int.reduceToNat, Int.reduceAdd, Int.reduceSub, Int.reduceMul, Int.reduceNeg, Int.reduceLT, Int.reduceLE, Int.reduceEq, Int.reduceBEq, Int.reduceBNe, Nat.reduceBEq, List.reduceReplicate]
        exact LeA.refl _
noncomputable def con27 : PCon Try.prog where
  f := 27
  c := fun
    | [xframe, xaxs, xrs, xl] => match slK .i64 xframe, ilsOf xaxs, slK .i64 xrs, arrsOf xl with | some frame, some axs, some rs, some l => some (frame.length ≤ 1000000 ∧ (∀ x ∈ axs, x.length ≤ 1000000) ∧ l.length ≤ 1000000 ∧ (∀ r ∈ rs, inI64 r) ∧ (∀ a ∈ l, okA a), .lit (.int .i64 (chkS frame axs rs l))) | _, _, _, _ => none
    | _ => none
  ok := by
    intro args p r hc hp
    split at hc
    · split at hc
      · rename_i hframe haxs hrs hl
        cases hc
        exact PC.weak ((fun hp : _ ∧ _ ∧ _ ∧ _ ∧ _ => chk_pc hp.1 hp.2.1 hp.2.2.1 hp.2.2.2.1 hp.2.2.2.2) hp) ⟨slK_le hframe, ilsOf_le haxs, slK_le hrs, arrsOf_le hl, trivial⟩
      · cases hc
    · cases hc
  fk := fk27
theorem con27_f : con27.f = 27 := rfl
theorem con27_c {xframe : AV} {xaxs : AV} {xrs : AV} {xl : AV} : con27.c [xframe, xaxs, xrs, xl] = match slK .i64 xframe, ilsOf xaxs, slK .i64 xrs, arrsOf xl with | some frame, some axs, some rs, some l => some (frame.length ≤ 1000000 ∧ (∀ x ∈ axs, x.length ≤ 1000000) ∧ l.length ≤ 1000000 ∧ (∀ r ∈ rs, inI64 r) ∧ (∀ a ∈ l, okA a), .lit (.int .i64 (chkS frame axs rs l))) | _, _, _, _ => none := rfl
noncomputable def E26 : Env := envOf (P := Try.prog) zer (fun _ => false) (fun _ => false) [con19, con26, con30, con36] []
theorem E26_ok : EnvOk Try.prog E26 := envOk zer_ok
set_option maxRecDepth 20000 in
set_option maxHeartbeats 4000000 in
theorem rchk_pc {frame : List Int} {axs : List (List Int)} {rs : List Int} {l : List Arr} (hf : frame.length ≤ 1000000) (hx : ∀ x ∈ axs, x.length ≤ 1000000) (hm : l.length ≤ 1000000) (hr : ∀ r ∈ rs, inI64 r) (hl : ∀ a ∈ l, okA a) :
    PC Try.prog 28 [.sl false 1 (ints .i64 frame), .sl false 1 (ils axs), .sl false 1 (ints .i64 rs), .sl false 3 (arrs l)] (.lit (.int .i64 (chkS frame axs rs l))) := by
  unfold chkS
  generalize hS : sizeS frame = s
  obtain ⟨sn, se⟩ := s
  simp only
  by_cases h1 : se ≠ 0 ∧ se ≠ 3
  · have e1 : (se != 0) = true := bne_iff_ne.2 h1.1
    have e2 : (se != 3) = true := bne_iff_ne.2 h1.2
    rw [if_pos (.inl h1)]
    refine pc_of E26_ok mixed (fun _ => [0, 1, 2, 3, 8, 10, 11, 12, 13, 38, 40, 44, 65, 93, 104]) Try.func28 rfl (by kernel_rfl) (Nat.le_of_ble_eq_true rfl) ?_
    simp only [initF_cons, initF_nil, Nat.reduceAdd]
    refine t_name fun KF => ?_
    unfold E26
    repeat' (first
      | with_reducible refine t_seq fun K => ?_
      | with_reducible refine t_block ?_
      | with_reducible refine t_scope ?_
      | with_reducible refine t_label ?_
      | with_reducible refine t_skip ?_
      | with_reducible refine t_exit ?_
      | with_reducible refine t_ret ?_
      | with_reducible refine t_k ?_
      | (with_reducible refine t_gF ?_)
      | ((first | with_reducible refine t_kE ?_ | with_reducible refine t_kD ?_ | with_reducible refine t_gS ?_ | with_reducible refine t_kL ?_ | (with_reducible refine t_kLE ?_ ?_; rotate_left) | with_reducible refine t_region fun K => ?_ | with_reducible refine t_draw (by kernel_rfl) fun K => ?_); simp only [go_sem, Int.cast_ofNat_Int, Nat.reduceEqDiff, reduceIte, Nat.reduceAdd, Nat.reduceMul, Nat.reduceLeDiff, Nat.reduceSub, Nat.reduceLT, Nat.zero_lt_succ, Int.reduceToNat, Int.reduceAdd, Int.reduceSub, Int.reduceMul, Int.reduceNeg, Int.reduceLT, Int.reduceLE, Int.reduceEq, Int.reduceBEq, Int.reduceBNe, Nat.reduceBEq, List.reduceReplicate, con19_f, con26_f, con30_f, con36_f, con30_c, arrs_length, ils_length, slK_sl, szV_def, hS, e1, e2])
      | (with_reducible exact kp_nil)
      | (with_reducible exact Kp.refl _)
      | (with_reducible exact kp_to)
      | (with_reducible refine kp_cons ?_)
      | (with_reducible refine kp_arr ?_)
      | (with_reducible refine kp_app ?_)
      | ((with_reducible refine kp_skip ?_ ?_); rfl)
      | ((with_reducible refine t_cond fun A B => ?_); simp only [go_sem, Int.cast_ofNat_Int, Nat.reduceEqDiff, reduceIte, Nat.reduceAdd, Nat.reduceMul, Nat.reduceLeDiff, Nat.reduceSub, Nat.reduceLT, Nat.zero_lt_succ, Int.reduceToNat, Int.reduceAdd, Int.reduceSub, Int.reduceMul, Int.reduceNeg, Int.reduceLT, Int.reduceLE, Int.reduceEq, Int.reduceBEq, Int.reduceBNe, Nat.reduceBEq, List.reduceReplicate, con19_f, con26_f, con30_f, con36_f, con30_c, arrs_length, ils_length, slK_sl, szV_def, hS, e1, e2]; first | (with_reducible refine A.h ?_) | (with_reducible refine B.h ?_) | refine And.intro (fun hc => A.h ?_) (fun hc => B.h ?_))
      | simp only [thenQ_n, thenQ_r, thenQ_e, blockQ_n, blockQ_r, blockQ_e, scopeQ_n, scopeQ_r, scopeQ_e, Nat.reduceEqDiff, reduceIte]
      | (with_reducible refine And.intro ?_ ?_)
      | with_reducible intro vr)
    all_goals try (intros; (try simp only [Bool.and_eq_true, Bool.or_eq_true, Bool.not_eq_true', decide_eq_true_eq, decide_eq_false_iff_not, beq_iff_eq, bne_iff_ne, ne_eq, inI64, List.length_append] at *) <;> omega)
    refine end_ret rfl ?_
    simp only [fin, go_sem, Int.cast_ofNat_Int, Nat.reduceEqDiff, reduceIte, Nat.reduceAdd, Nat.reduceMul, Nat.reduceLeDiff, Nat.reduceSub, Nat.reduceLT, Nat.zero_lt_succ, Int.reduceToNat, Int.reduceAdd, Int.reduceSub, Int.reduceMul, Int.reduceNeg, Int.reduceLT, Int.reduceLE, Int.reduceEq, Int.reduceBEq, Int.reduceBNe, Nat.reduceBEq, List.reduceReplicate]
    exact LeA.refl _
  · have h1' : se = 0 ∨ se = 3 := by omega
    by_cases h2 : axs.length = l.length
    · have e3 : ((axs.length : Int) != (l.length : Int)) = false := by rw [bne_eq_false_iff_eq]; omega
      by_cases h3 : rs.length = l.length
      · have e4 : ((rs.length : Int) != (l.length : Int)) = false := by rw [bne_eq_false_iff_eq]; omega
        rw [if_neg (by omega)]
        rcases h1' with rfl | rfl
        · rw [if_neg (by simp)]
          generalize hG : chkG frame axs rs l = G
          refine pc_of E26_ok mixed (fun _ => [0, 1, 2, 3, 8, 10, 11, 12, 13, 38, 40, 44, 65, 93, 104]) Try.func28 rfl (by kernel_rfl) (Nat.le_of_ble_eq_true rfl) ?_
          simp only [initF_cons, initF_nil, Nat.reduceAdd]
          refine t_name fun KF => ?_
          unfold E26
          repeat' (first
            | with_reducible refine t_seq fun K => ?_
            | with_reducible refine t_block ?_
            | with_reducible refine t_scope ?_
            | with_reducible refine t_label ?_
            | with_reducible refine t_skip ?_
            | with_reducible refine t_exit ?_
            | with_reducible refine t_ret ?_
            | with_reducible refine t_k ?_
            | (with_reducible refine t_gF ?_)
            | ((first | with_reducible refine t_kE ?_ | with_reducible refine t_kD ?_ | with_reducible refine t_gS ?_ | with_reducible refine t_kL ?_ | (with_reducible refine t_kLE ?_ ?_; rotate_left) | with_reducible refine t_region fun K => ?_ | with_reducible refine t_draw (by kernel_rfl) fun K => ?_); simp only [go_sem, Int.cast_ofNat_Int, Nat.reduceEqDiff, reduceIte, Nat.reduceAdd, Nat.reduceMul, Nat.reduceLeDiff, Nat.reduceSub, Nat.reduceLT, Nat.zero_lt_succ, Int.reduceToNat, Int.reduceAdd, Int.reduceSub, Int.reduceMul, Int.reduceNeg, Int.reduceLT, Int.reduceLE, Int.reduceEq, Int.reduceBEq, Int.reduceBNe, Nat.reduceBEq, List.reduceReplicate, con19_f, con26_f, con30_f, con36_f, con30_c, arrs_length, ils_length, slK_sl, szV_def, hS, e3, e4])
            | (with_reducible exact kp_nil)
            | (with_reducible exact Kp.refl _)
            | (with_reducible exact kp_to)
            | (with_reducible refine kp_cons ?_)
            | (with_reducible refine kp_arr ?_)
            | (with_reducible refine kp_app ?_)
            | ((with_reducible refine kp_skip ?_ ?_); rfl)
            | ((with_reducible refine t_cond fun A B => ?_); simp only [go_sem, Int.cast_ofNat_Int, Nat.reduceEqDiff, reduceIte, Nat.reduceAdd, Nat.reduceMul, Nat.reduceLeDiff, Nat.reduceSub, Nat.reduceLT, Nat.zero_lt_succ, Int.reduceToNat, Int.reduceAdd, Int.reduceSub, Int.reduceMul, Int.reduceNeg, Int.reduceLT, Int.reduceLE, Int.reduceEq, Int.reduceBEq, Int.reduceBNe, Nat.reduceBEq, List.reduceReplicate, con19_f, con26_f, con30_f, con36_f, con30_c, arrs_length, ils_length, slK_sl, szV_def, hS, e3, e4]; first | (with_reducible refine A.h ?_) | (with_reducible refine B.h ?_) | refine And.intro (fun hc => A.h ?_) (fun hc => B.h ?_))
            | simp only [thenQ_n, thenQ_r, thenQ_e, blockQ_n, blockQ_r, blockQ_e, scopeQ_n, scopeQ_r, scopeQ_e, Nat.reduceEqDiff, reduceIte]
            | (with_reducible refine And.intro ?_ ?_)
            | with_reducible intro vr)
          all_goals try (intros; (try simp only [Bool.and_eq_true, Bool.or_eq_true, Bool.not_eq_true', decide_eq_true_eq, decide_eq_false_iff_not, beq_iff_eq, bne_iff_ne, ne_eq, inI64, List.length_append] at *) <;> omega)
          refine t_loop (ι := Lk frame axs rs l G) (fun i => ⟨upd (upd (upd (upd (upd topF 11 (.lit (.int .i64 i.i))) 3 (.sl false 3 (arrs l))) 2 (.sl false 1 (ints .i64 rs))) 1 (.sl false 1 (ils axs))) 0 (.sl false 1 (ints .i64 frame)), []⟩) (fun i => l.length - i.i) ⟨0, [], by omega, hG⟩ ?_ ?_
          · skip
            (refine Le.frame ?_; repeat' (first | exact leF_top _ | (with_reducible refine leF_sl ?_ ?_) | (refine leF_upd (LeR.of_eq ?_) ?_))) <;> (try (simp only [go_sem, Int.cast_ofNat_Int, Nat.reduceEqDiff, reduceIte, Nat.reduceAdd, Nat.reduceMul, Nat.reduceLeDiff, Nat.reduceSub, Nat.reduceLT, Nat.zero_lt_succ, Int.reduceToNat, Int.reduceAdd, Int.reduceSub, Int.reduceMul, Int.reduceNeg, Int.reduceLT, Int.reduceLE, Int.reduceEq, Int.reduceBEq, Int.reduceBNe, Nat.reduceBEq, List.reduceReplicate]; try rfl))
          · rintro ⟨i, g, hi, hF⟩ K0
            have k1 : ∀ (X : AObj), (g ++ [X])[g.length]? = some X := fun X => getA0 rfl
            have k2 : ∀ (X Y : AObj), (g ++ [X]).set g.length Y = g ++ [Y] := fun X Y => setA0 rfl
            rcases Nat.lt_or_ge i l.length with hc | hc
            · have g1 : decide ((i : Int) < (l.length : Int)) = true := decide_eq_true (by omega)
              have g2 := arrs_getD l i hc
              have g3 := ints_getD .i64 rs i (by omega)
              have g4 := ils_getD axs i (by omega)
              have ha := hl _ (getD_mem nilA hc)
              have hr' := hr _ (getD_mem 0 (show i < rs.length by omega))
              have hx' := hx _ (getD_mem [] (show i < axs.length by omega))
              rw [drop_getD nilA hc, drop_getD 0 (show i < rs.length by omega), drop_getD [] (show i < axs.length by omega), chkG] at hF
              generalize l.getD i nilA = a at g2 hF ha
              generalize rs.getD i 0 = r at g3 hF hr'
              generalize axs.getD i [] = ax at g4 hF hx'
              have ha1 := ha.1
              have ha2 := ha.2
              generalize hC : checkS frame ax r a = c at hF
              unfold checkS at hC
              cases hP : pickS frame ax with
              | none =>
                rw [hP] at hC
                simp only at hC
                subst hC
                rw [if_pos (by decide)] at hF
                subst hF
                repeat' (first
                  | with_reducible refine t_seq fun K => ?_
                  | with_reducible refine t_block ?_
                  | with_reducible refine t_scope ?_
                  | with_reducible refine t_label ?_
                  | with_reducible refine t_skip ?_
                  | with_reducible refine t_exit ?_
                  | with_reducible refine t_ret ?_
                  | with_reducible refine t_k ?_
                  | (with_reducible refine t_gF ?_)
                  | ((first | with_reducible refine t_kE ?_ | with_reducible refine t_kD ?_ | with_reducible refine t_gS ?_ | with_reducible refine t_kL ?_ | (with_reducible refine t_kLE ?_ ?_; rotate_left) | with_reducible refine t_region fun K => ?_ | with_reducible refine t_draw (by kernel_rfl) fun K => ?_); simp only [go_sem, Int.cast_ofNat_Int, Nat.reduceEqDiff, reduceIte, Nat.reduceAdd, Nat.reduceMul, Nat.reduceLeDiff, Nat.reduceSub, Nat.reduceLT, Nat.zero_lt_succ, Int.reduceToNat, Int.reduceAdd, Int.reduceSub, Int.reduceMul, Int.reduceNeg, Int.reduceLT, Int.reduceLE, Int.reduceEq, Int.reduceBEq, Int.reduceBNe, Nat.reduceBEq, List.reduceReplicate, con30_f, con26_f, con36_f, con19_f, con26_c, con36_c, con19_c, g1, g2, g3, g4, arrs_length, ils_length, arrV_def, arrOf_agg, slK_sl, hP, optV, Int.toNat_natCast, Bool.not_true, Bool.not_false, Bool.not_false])
                  | (with_reducible exact kp_nil)
                  | (with_reducible exact Kp.refl _)
                  | (with_reducible exact kp_to)
                  | (with_reducible refine kp_cons ?_)
                  | (with_reducible refine kp_arr ?_)
                  | (with_reducible refine kp_app ?_)
                  | ((with_reducible refine kp_skip ?_ ?_); rfl)
                  | ((with_reducible refine t_cond fun A B => ?_); simp only [go_sem, Int.cast_ofNat_Int, Nat.reduceEqDiff, reduceIte, Nat.reduceAdd, Nat.reduceMul, Nat.reduceLeDiff, Nat.reduceSub, Nat.reduceLT, Nat.zero_lt_succ, Int.reduceToNat, Int.reduceAdd, Int.reduceSub, Int.reduceMul, Int.reduceNeg, Int.reduceLT, Int.reduceLE, Int.reduceEq, Int.reduceBEq, Int.reduceBNe, Nat.reduceBEq, List.reduceReplicate, con30_f, con26_f, con36_f, con19_f, con26_c, con36_c, con19_c, g1, g2, g3, g4, arrs_length, ils_length, arrV_def, arrOf_agg, slK_sl, hP, optV, Int.toNat_natCast, Bool.not_true, Bool.not_false, Bool.not_false]; first | (with_reducible refine A.h ?_) | (with_reducible refine B.h ?_) | refine And.intro (fun hc => A.h ?_) (fun hc => B.h ?_))
                  | simp only [thenQ_n, thenQ_r, thenQ_e, blockQ_n, blockQ_r, blockQ_e, scopeQ_n, scopeQ_r, scopeQ_e, Nat.reduceEqDiff, reduceIte]
                  | (with_reducible refine And.intro ?_ ?_)
                  | with_reducible intro vr)
                all_goals try (intros; (try simp only [Bool.and_eq_true, Bool.or_eq_true, Bool.not_eq_true', decide_eq_true_eq, decide_eq_false_iff_not, beq_iff_eq, bne_iff_ne, ne_eq, inI64, List.length_append] at *) <;> omega)
                all_goals try first | exact ha | exact hr' | exact hx'
                refine end_ret rfl ?_
                simp only [fin, go_sem, Int.cast_ofNat_Int, Nat.reduceEqDiff, reduceIte, Nat.reduceAdd, Nat.reduceMul, Nat.reduceLeDiff, Nat.reduceSub, Nat.reduceLT, Nat.zero_lt_succ, Int.reduceToNat, Int.reduceAdd, Int.reduceSub, Int.reduceMul, Int.reduceNeg, Int.reduceLT, Int.reduceLE, Int.reduceEq, Int.reduceBEq, Int.reduceBNe, Nat.reduceBEq, List.reduceReplicate]
                exact LeA.refl _
              | some own =>
                rw [hP] at hC
                simp only at hC
                have hol : own.length = ax.length := by
                  unfold pickS at hP
                  split at hP
                  · cases hP; exact pickM_len frame ax
                  · cases hP
                by_cases h0 : ofE a = 0
                · have e0 : (ofE a == 0) = true := by rw [h0]; rfl
                  have hrk := ofE_rank h0
                  rw [if_neg (by simpa using h0)] at hC
                  by_cases h1 : r < 0
                  · have h1' : decide (r < 0) = true := decide_eq_true h1
                    rw [if_pos (.inl h1)] at hC
                    subst hC
                    rw [if_pos (by decide)] at hF
                    subst hF
                    repeat' (first
                      | with_reducible refine t_seq fun K => ?_
                      | with_reducible refine t_block ?_
                      | with_reducible refine t_scope ?_
                      | with_reducible refine t_label ?_
                      | with_reducible refine t_skip ?_
                      | with_reducible refine t_exit ?_
                      | with_reducible refine t_ret ?_
                      | with_reducible refine t_k ?_
                      | (with_reducible refine t_gF ?_)
                      | ((first | with_reducible refine t_kE ?_ | with_reducible refine t_kD ?_ | with_reducible refine t_gS ?_ | with_reducible refine t_kL ?_ | (with_reducible refine t_kLE ?_ ?_; rotate_left) | with_reducible refine t_region fun K => ?_ | with_reducible refine t_draw (by kernel_rfl) fun K => ?_); simp only [go_sem, Int.cast_ofNat_Int, Nat.reduceEqDiff, reduceIte, Nat.reduceAdd, Nat.reduceMul, Nat.reduceLeDiff, Nat.reduceSub, Nat.reduceLT, Nat.zero_lt_succ, Int.reduceToNat, Int.reduceAdd, Int.reduceSub, Int.reduceMul, Int.reduceNeg, Int.reduceLT, Int.reduceLE, Int.reduceEq, Int.reduceBEq, Int.reduceBNe, Nat.reduceBEq, List.reduceReplicate, con30_f, con26_f, con36_f, con19_f, con26_c, con36_c, con19_c, g1, g2, g3, g4, arrs_length, ils_length, arrV_def, arrOf_agg, slK_sl, hP, optV, Int.toNat_natCast, Bool.not_true, Bool.not_false, e0, h1'])
                      | (with_reducible exact kp_nil)
                      | (with_reducible exact Kp.refl _)
                      | (with_reducible exact kp_to)
                      | (with_reducible refine kp_cons ?_)
                      | (with_reducible refine kp_arr ?_)
                      | (with_reducible refine kp_app ?_)
                      | ((with_reducible refine kp_skip ?_ ?_); rfl)
                      | ((with_reducible refine t_cond fun A B => ?_); simp only [go_sem, Int.cast_ofNat_Int, Nat.reduceEqDiff, reduceIte, Nat.reduceAdd, Nat.reduceMul, Nat.reduceLeDiff, Nat.reduceSub, Nat.reduceLT, Nat.zero_lt_succ, Int.reduceToNat, Int.reduceAdd, Int.reduceSub, Int.reduceMul, Int.reduceNeg, Int.reduceLT, Int.reduceLE, Int.reduceEq, Int.reduceBEq, Int.reduceBNe, Nat.reduceBEq, List.reduceReplicate, con30_f, con26_f, con36_f, con19_f, con26_c, con36_c, con19_c, g1, g2, g3, g4, arrs_length, ils_length, arrV_def, arrOf_agg, slK_sl, hP, optV, Int.toNat_natCast, Bool.not_true, Bool.not_false, e0, h1']; first | (with_reducible refine A.h ?_) | (with_reducible refine B.h ?_) | refine And.intro (fun hc => A.h ?_) (fun hc => B.h ?_))
                      | simp only [thenQ_n, thenQ_r, thenQ_e, blockQ_n, blockQ_r, blockQ_e, scopeQ_n, scopeQ_r, scopeQ_e, Nat.reduceEqDiff, reduceIte]
                      | (with_reducible refine And.intro ?_ ?_)
                      | with_reducible intro vr)
                    all_goals try (intros; (try simp only [Bool.and_eq_true, Bool.or_eq_true, Bool.not_eq_true', decide_eq_true_eq, decide_eq_false_iff_not, beq_iff_eq, bne_iff_ne, ne_eq, inI64, List.length_append] at *) <;> omega)
                    all_goals try first | exact ha | exact hr' | exact hx'
                    refine end_ret rfl ?_
                    simp only [fin, go_sem, Int.cast_ofNat_Int, Nat.reduceEqDiff, reduceIte, Nat.reduceAdd, Nat.reduceMul, Nat.reduceLeDiff, Nat.reduceSub, Nat.reduceLT, Nat.zero_lt_succ, Int.reduceToNat, Int.reduceAdd, Int.reduceSub, Int.reduceMul, Int.reduceNeg, Int.reduceLT, Int.reduceLE, Int.reduceEq, Int.reduceBEq, Int.reduceBNe, Nat.reduceBEq, List.reduceReplicate]
                    exact LeA.refl _
                  · have h1' : decide (r < 0) = false := decide_eq_false h1
                    by_cases h6 : r > 6
                    · have h6' : decide (r > 6) = true := decide_eq_true h6
                      rw [if_pos (.inr (by omega))] at hC
                      subst hC
                      rw [if_pos (by decide)] at hF
                      subst hF
                      repeat' (first
                        | with_reducible refine t_seq fun K => ?_
                        | with_reducible refine t_block ?_
                        | with_reducible refine t_scope ?_
                        | with_reducible refine t_label ?_
                        | with_reducible refine t_skip ?_
                        | with_reducible refine t_exit ?_
                        | with_reducible refine t_ret ?_
                        | with_reducible refine t_k ?_
                        | (with_reducible refine t_gF ?_)
                        | ((first | with_reducible refine t_kE ?_ | with_reducible refine t_kD ?_ | with_reducible refine t_gS ?_ | with_reducible refine t_kL ?_ | (with_reducible refine t_kLE ?_ ?_; rotate_left) | with_reducible refine t_region fun K => ?_ | with_reducible refine t_draw (by kernel_rfl) fun K => ?_); simp only [go_sem, Int.cast_ofNat_Int, Nat.reduceEqDiff, reduceIte, Nat.reduceAdd, Nat.reduceMul, Nat.reduceLeDiff, Nat.reduceSub, Nat.reduceLT, Nat.zero_lt_succ, Int.reduceToNat, Int.reduceAdd, Int.reduceSub, Int.reduceMul, Int.reduceNeg, Int.reduceLT, Int.reduceLE, Int.reduceEq, Int.reduceBEq, Int.reduceBNe, Nat.reduceBEq, List.reduceReplicate, con30_f, con26_f, con36_f, con19_f, con26_c, con36_c, con19_c, g1, g2, g3, g4, arrs_length, ils_length, arrV_def, arrOf_agg, slK_sl, hP, optV, Int.toNat_natCast, Bool.not_true, Bool.not_false, e0, h1', h6'])
                        | (with_reducible exact kp_nil)
                        | (with_reducible exact Kp.refl _)
                        | (with_reducible exact kp_to)
                        | (with_reducible refine kp_cons ?_)
                        | (with_reducible refine kp_arr ?_)
                        | (with_reducible refine kp_app ?_)
                        | ((with_reducible refine kp_skip ?_ ?_); rfl)
                        | ((with_reducible refine t_cond fun A B => ?_); simp only [go_sem, Int.cast_ofNat_Int, Nat.reduceEqDiff, reduceIte, Nat.reduceAdd, Nat.reduceMul, Nat.reduceLeDiff, Nat.reduceSub, Nat.reduceLT, Nat.zero_lt_succ, Int.reduceToNat, Int.reduceAdd, Int.reduceSub, Int.reduceMul, Int.reduceNeg, Int.reduceLT, Int.reduceLE, Int.reduceEq, Int.reduceBEq, Int.reduceBNe, Nat.reduceBEq, List.reduceReplicate, con30_f, con26_f, con36_f, con19_f, con26_c, con36_c, con19_c, g1, g2, g3, g4, arrs_length, ils_length, arrV_def, arrOf_agg, slK_sl, hP, optV, Int.toNat_natCast, Bool.not_true, Bool.not_false, e0, h1', h6']; first | (with_reducible refine A.h ?_) | (with_reducible refine B.h ?_) | refine And.intro (fun hc => A.h ?_) (fun hc => B.h ?_))
                        | simp only [thenQ_n, thenQ_r, thenQ_e, blockQ_n, blockQ_r, blockQ_e, scopeQ_n, scopeQ_r, scopeQ_e, Nat.reduceEqDiff, reduceIte]
                        | (with_reducible refine And.intro ?_ ?_)
                        | with_reducible intro vr)
                      all_goals try (intros; (try simp only [Bool.and_eq_true, Bool.or_eq_true, Bool.not_eq_true', decide_eq_true_eq, decide_eq_false_iff_not, beq_iff_eq, bne_iff_ne, ne_eq, inI64, List.length_append] at *) <;> omega)
                      all_goals try first | exact ha | exact hr' | exact hx'
                      refine end_ret rfl ?_
                      simp only [fin, go_sem, Int.cast_ofNat_Int, Nat.reduceEqDiff, reduceIte, Nat.reduceAdd, Nat.reduceMul, Nat.reduceLeDiff, Nat.reduceSub, Nat.reduceLT, Nat.zero_lt_succ, Int.reduceToNat, Int.reduceAdd, Int.reduceSub, Int.reduceMul, Int.reduceNeg, Int.reduceLT, Int.reduceLE, Int.reduceEq, Int.reduceBEq, Int.reduceBNe, Nat.reduceBEq, List.reduceReplicate]
                      exact LeA.refl _
                    · have h6' : decide (r > 6) = false := decide_eq_false h6
                      by_cases h2 : (a.d.length : Int) = r + ax.length
                      · have h2' : ((a.d.length : Int) != r + (own.length : Int)) = false := bne_eq_false_iff_eq.2 (by omega)
                        rw [if_neg (by omega)] at hC
                        by_cases h3 : a.d.take ax.length = own
                        · have h3' : decide (own = a.d.take own.length) = true := decide_eq_true (by rw [hol]; exact h3.symm)
                          rw [if_neg (by simpa using h3)] at hC
                          subst hC
                          rw [if_neg (by decide)] at hF
                          repeat' (first
                            | with_reducible refine t_seq fun K => ?_
                            | with_reducible refine t_block ?_
                            | with_reducible refine t_scope ?_
                            | with_reducible refine t_label ?_
                            | with_reducible refine t_skip ?_
                            | with_reducible refine t_exit ?_
                            | with_reducible refine t_ret ?_
                            | with_reducible refine t_k ?_
                            | (with_reducible refine t_gF ?_)
                            | ((first | with_reducible refine t_kE ?_ | with_reducible refine t_kD ?_ | with_reducible refine t_gS ?_ | with_reducible refine t_kL ?_ | (with_reducible refine t_kLE ?_ ?_; rotate_left) | with_reducible refine t_region fun K => ?_ | with_reducible refine t_draw (by kernel_rfl) fun K => ?_); simp only [go_sem, Int.cast_ofNat_Int, Nat.reduceEqDiff, reduceIte, Nat.reduceAdd, Nat.reduceMul, Nat.reduceLeDiff, Nat.reduceSub, Nat.reduceLT, Nat.zero_lt_succ, Int.reduceToNat, Int.reduceAdd, Int.reduceSub, Int.reduceMul, Int.reduceNeg, Int.reduceLT, Int.reduceLE, Int.reduceEq, Int.reduceBEq, Int.reduceBNe, Nat.reduceBEq, List.reduceReplicate, con30_f, con26_f, con36_f, con19_f, con26_c, con36_c, con19_c, g1, g2, g3, g4, arrs_length, ils_length, arrV_def, arrOf_agg, slK_sl, hP, optV, Int.toNat_natCast, Bool.not_true, Bool.not_false, e0, h1', h6', h2', h3'])
                            | (with_reducible exact kp_nil)
                            | (with_reducible exact Kp.refl _)
                            | (with_reducible exact kp_to)
                            | (with_reducible refine kp_cons ?_)
                            | (with_reducible refine kp_arr ?_)
                            | (with_reducible refine kp_app ?_)
                            | ((with_reducible refine kp_skip ?_ ?_); rfl)
                            | ((with_reducible refine t_cond fun A B => ?_); simp only [go_sem, Int.cast_ofNat_Int, Nat.reduceEqDiff, reduceIte, Nat.reduceAdd, Nat.reduceMul, Nat.reduceLeDiff, Nat.reduceSub, Nat.reduceLT, Nat.zero_lt_succ, Int.reduceToNat, Int.reduceAdd, Int.reduceSub, Int.reduceMul, Int.reduceNeg, Int.reduceLT, Int.reduceLE, Int.reduceEq, Int.reduceBEq, Int.reduceBNe, Nat.reduceBEq, List.reduceReplicate, con30_f, con26_f, con36_f, con19_f, con26_c, con36_c, con19_c, g1, g2, g3, g4, arrs_length, ils_length, arrV_def, arrOf_agg, slK_sl, hP, optV, Int.toNat_natCast, Bool.not_true, Bool.not_false, e0, h1', h6', h2', h3']; first | (with_reducible refine A.h ?_) | (with_reducible refine B.h ?_) | refine And.intro (fun hc => A.h ?_) (fun hc => B.h ?_))
                            | simp only [thenQ_n, thenQ_r, thenQ_e, blockQ_n, blockQ_r, blockQ_e, scopeQ_n, scopeQ_r, scopeQ_e, Nat.reduceEqDiff, reduceIte]
                            | (with_reducible refine And.intro ?_ ?_)
                            | with_reducible intro vr)
                          all_goals try (intros; (try simp only [Bool.and_eq_true, Bool.or_eq_true, Bool.not_eq_true', decide_eq_true_eq, decide_eq_false_iff_not, beq_iff_eq, bne_iff_ne, ne_eq, inI64, List.length_append] at *) <;> omega)
                          all_goals try first | exact ha | exact hr' | exact hx'
                          refine ⟨⟨i + 1, g, by omega, hF⟩, by simp only; omega, ?_⟩
                          (refine Le.frame ?_; repeat' (first | exact leF_top _ | (with_reducible refine leF_sl ?_ ?_) | (refine leF_upd (LeR.of_eq ?_) ?_))) <;> (try (simp only [go_sem, Int.cast_ofNat_Int, Nat.reduceEqDiff, reduceIte, Nat.reduceAdd, Nat.reduceMul, Nat.reduceLeDiff, Nat.reduceSub, Nat.reduceLT, Nat.zero_lt_succ, Int.reduceToNat, Int.reduceAdd, Int.reduceSub, Int.reduceMul, Int.reduceNeg, Int.reduceLT, Int.reduceLE, Int.reduceEq, Int.reduceBEq, Int.reduceBNe, Nat.reduceBEq, List.reduceReplicate]; try rfl))
                        · have h3' : decide (own = a.d.take own.length) = false := decide_eq_false (by rw [hol]; exact fun h => h3 h.symm)
                          rw [if_pos h3] at hC
                          subst hC
                          rw [if_pos (by decide)] at hF
                          subst hF
                          repeat' (first
                            | with_reducible refine t_seq fun K => ?_
                            | with_reducible refine t_block ?_
                            | with_reducible refine t_scope ?_
                            | with_reducible refine t_label ?_
                            | with_reducible refine t_skip ?_
                            | with_reducible refine t_exit ?_
                            | with_reducible refine t_ret ?_
                            | with_reducible refine t_k ?_
                            | (with_reducible refine t_gF ?_)
                            | ((first | with_reducible refine t_kE ?_ | with_reducible refine t_kD ?_ | with_reducible refine t_gS ?_ | with_reducible refine t_kL ?_ | (with_reducible refine t_kLE ?_ ?_; rotate_left) | with_reducible refine t_region fun K => ?_ | with_reducible refine t_draw (by kernel_rfl) fun K => ?_); simp only [go_sem, Int.cast_ofNat_Int, Nat.reduceEqDiff, reduceIte, Nat.reduceAdd, Nat.reduceMul, Nat.reduceLeDiff, Nat.reduceSub, Nat.reduceLT, Nat.zero_lt_succ, Int.reduceToNat, Int.reduceAdd, Int.reduceSub, Int.reduceMul, Int.reduceNeg, Int.reduceLT, Int.reduceLE, Int.reduceEq, Int.reduceBEq, Int.reduceBNe, Nat.reduceBEq, List.reduceReplicate, con30_f, con26_f, con36_f, con19_f, con26_c, con36_c, con19_c, g1, g2, g3, g4, arrs_length, ils_length, arrV_def, arrOf_agg, slK_sl, hP, optV, Int.toNat_natCast, Bool.not_true, Bool.not_false, e0, h1', h6', h2', h3'])
                            | (with_reducible exact kp_nil)
                            | (with_reducible exact Kp.refl _)
                            | (with_reducible exact kp_to)
                            | (with_reducible refine kp_cons ?_)
                            | (with_reducible refine kp_arr ?_)
                            | (with_reducible refine kp_app ?_)
                            | ((with_reducible refine kp_skip ?_ ?_); rfl)
                            | ((with_reducible refine t_cond fun A B => ?_); simp only [go_sem, Int.cast_ofNat_Int, Nat.reduceEqDiff, reduceIte, Nat.reduceAdd, Nat.reduceMul, Nat.reduceLeDiff, Nat.reduceSub, Nat.reduceLT, Nat.zero_lt_succ, Int.reduceToNat, Int.reduceAdd, Int.reduceSub, Int.reduceMul, Int.reduceNeg, Int.reduceLT, Int.reduceLE, Int.reduceEq, Int.reduceBEq, Int.reduceBNe, Nat.reduceBEq, List.reduceReplicate, con30_f, con26_f, con36_f, con19_f, con26_c, con36_c, con19_c, g1, g2, g3, g4, arrs_length, ils_length, arrV_def, arrOf_agg, slK_sl, hP, optV, Int.toNat_natCast, Bool.not_true, Bool.not_false, e0, h1', h6', h2', h3']; first | (with_reducible refine A.h ?_) | (with_reducible refine B.h ?_) | refine And.intro (fun hc => A.h ?_) (fun hc => B.h ?_))
                            | simp only [thenQ_n, thenQ_r, thenQ_e, blockQ_n, blockQ_r, blockQ_e, scopeQ_n, scopeQ_r, scopeQ_e, Nat.reduceEqDiff, reduceIte]
                            | (with_reducible refine And.intro ?_ ?_)
                            | with_reducible intro vr)
                          all_goals try (intros; (try simp only [Bool.and_eq_true, Bool.or_eq_true, Bool.not_eq_true', decide_eq_true_eq, decide_eq_false_iff_not, beq_iff_eq, bne_iff_ne, ne_eq, inI64, List.length_append] at *) <;> omega)
                          all_goals try first | exact ha | exact hr' | exact hx'
                          refine end_ret rfl ?_
                          simp only [fin, go_sem, Int.cast_ofNat_Int, Nat.reduceEqDiff, reduceIte, Nat.reduceAdd, Nat.reduceMul, Nat.reduceLeDiff, Nat.reduceSub, Nat.reduceLT, Nat.zero_lt_succ, Int.reduceToNat, Int.reduceAdd, Int.reduceSub, Int.reduceMul, Int.reduceNeg, Int.reduceLT, Int.reduceLE, Int.reduceEq, Int.reduceBEq, Int.reduceBNe, Nat.reduceBEq, List.reduceReplicate]
                          exact LeA.refl _
                      · have h2' : ((a.d.length : Int) != r + (own.length : Int)) = true := bne_iff_ne.2 (by omega)
                        rw [if_pos (.inr h2)] at hC
                        subst hC
                        rw [if_pos (by decide)] at hF
                        subst hF
                        repeat' (first
                          | with_reducible refine t_seq fun K => ?_
                          | with_reducible refine t_block ?_
                          | with_reducible refine t_scope ?_
                          | with_reducible refine t_label ?_
                          | with_reducible refine t_skip ?_
                          | with_reducible refine t_exit ?_
                          | with_reducible refine t_ret ?_
                          | with_reducible refine t_k ?_
                          | (with_reducible refine t_gF ?_)
                          | ((first | with_reducible refine t_kE ?_ | with_reducible refine t_kD ?_ | with_reducible refine t_gS ?_ | with_reducible refine t_kL ?_ | (with_reducible refine t_kLE ?_ ?_; rotate_left) | with_reducible refine t_region fun K => ?_ | with_reducible refine t_draw (by kernel_rfl) fun K => ?_); simp only [go_sem, Int.cast_ofNat_Int, Nat.reduceEqDiff, reduceIte, Nat.reduceAdd, Nat.reduceMul, Nat.reduceLeDiff, Nat.reduceSub, Nat.reduceLT, Nat.zero_lt_succ, Int.reduceToNat, Int.reduceAdd, Int.reduceSub, Int.reduceMul, Int.reduceNeg, Int.reduceLT, Int.reduceLE, Int.reduceEq, Int.reduceBEq, Int.reduceBNe, Nat.reduceBEq, List.reduceReplicate, con30_f, con26_f, con36_f, con19_f, con26_c, con36_c, con19_c, g1, g2, g3, g4, arrs_length, ils_length, arrV_def, arrOf_agg, slK_sl, hP, optV, Int.toNat_natCast, Bool.not_true, Bool.not_false, e0, h1', h6', h2'])
                          | (with_reducible exact kp_nil)
                          | (with_reducible exact Kp.refl _)
                          | (with_reducible exact kp_to)
                          | (with_reducible refine kp_cons ?_)
                          | (with_reducible refine kp_arr ?_)
                          | (with_reducible refine kp_app ?_)
                          | ((with_reducible refine kp_skip ?_ ?_); rfl)
                          | ((with_reducible refine t_cond fun A B => ?_); simp only [go_sem, Int.cast_ofNat_Int, Nat.reduceEqDiff, reduceIte, Nat.reduceAdd, Nat.reduceMul, Nat.reduceLeDiff, Nat.reduceSub, Nat.reduceLT, Nat.zero_lt_succ, Int.reduceToNat, Int.reduceAdd, Int.reduceSub, Int.reduceMul, Int.reduceNeg, Int.reduceLT, Int.reduceLE, Int.reduceEq, Int.reduceBEq, Int.reduceBNe, Nat.reduceBEq, List.reduceReplicate, con30_f, con26_f, con36_f, con19_f, con26_c, con36_c, con19_c, g1, g2, g3, g4, arrs_length, ils_length, arrV_def, arrOf_agg, slK_sl, hP, optV, Int.toNat_natCast, Bool.not_true, Bool.not_false, e0, h1', h6', h2']; first | (with_reducible refine A.h ?_) | (with_reducible refine B.h ?_) | refine And.intro (fun hc => A.h ?_) (fun hc => B.h ?_))
                          | simp only [thenQ_n, thenQ_r, thenQ_e, blockQ_n, blockQ_r, blockQ_e, scopeQ_n, scopeQ_r, scopeQ_e, Nat.reduceEqDiff, reduceIte]
                          | (with_reducible refine And.intro ?_ ?_)
                          | with_reducible intro vr)
                        all_goals try (intros; (try simp only [Bool.and_eq_true, Bool.or_eq_true, Bool.not_eq_true', decide_eq_true_eq, decide_eq_false_iff_not, beq_iff_eq, bne_iff_ne, ne_eq, inI64, List.length_append] at *) <;> omega)
                        all_goals try first | exact ha | exact hr' | exact hx'
                        refine end_ret rfl ?_
                        simp only [fin, go_sem, Int.cast_ofNat_Int, Nat.reduceEqDiff, reduceIte, Nat.reduceAdd, Nat.reduceMul, Nat.reduceLeDiff, Nat.reduceSub, Nat.reduceLT, Nat.zero_lt_succ, Int.reduceToNat, Int.reduceAdd, Int.reduceSub, Int.reduceMul, Int.reduceNeg, Int.reduceLT, Int.reduceLE, Int.reduceEq, Int.reduceBEq, Int.reduceBNe, Nat.reduceBEq, List.reduceReplicate]
                        exact LeA.refl _
                · have e0 : (ofE a == 0) = false := bne0 h0
                  rw [if_pos h0] at hC
                  subst hC
                  rw [if_pos (by decide)] at hF
                  subst hF
                  repeat' (first
                    | with_reducible refine t_seq fun K => ?_
                    | with_reducible refine t_block ?_
                    | with_reducible refine t_scope ?_
                    | with_reducible refine t_label ?_
                    | with_reducible refine t_skip ?_
                    | with_reducible refine t_exit ?_
                    | with_reducible refine t_ret ?_
                    | with_reducible refine t_k ?_
                    | (with_reducible refine t_gF ?_)
                    | ((first | with_reducible refine t_kE ?_ | with_reducible refine t_kD ?_ | with_reducible refine t_gS ?_ | with_reducible refine t_kL ?_ | (with_reducible refine t_kLE ?_ ?_; rotate_left) | with_reducible refine t_region fun K => ?_ | with_reducible refine t_draw (by kernel_rfl) fun K => ?_); simp only [go_sem, Int.cast_ofNat_Int, Nat.reduceEqDiff, reduceIte, Nat.reduceAdd, Nat.reduceMul, Nat.reduceLeDiff, Nat.reduceSub, Nat.reduceLT, Nat.zero_lt_succ, Int.reduceToNat, Int.reduceAdd, Int.reduceSub, Int.reduceMul, Int.reduceNeg, Int.reduceLT, Int.reduceLE, Int.reduceEq, Int.reduceBEq, Int.reduceBNe, Nat.reduceBEq, List.reduceReplicate, con30_f, con26_f, con36_f, con19_f, con26_c, con36_c, con19_c, g1, g2, g3, g4, arrs_length, ils_length, arrV_def, arrOf_agg, slK_sl, hP, optV, Int.toNat_natCast, Bool.not_true, Bool.not_false, e0])
                    | (with_reducible exact kp_nil)
                    | (with_reducible exact Kp.refl _)
                    | (with_reducible exact kp_to)
                    | (with_reducible refine kp_cons ?_)
                    | (with_reducible refine kp_arr ?_)
                    | (with_reducible refine kp_app ?_)
                    | ((with_reducible refine kp_skip ?_ ?_); rfl)
                    | ((with_reducible refine t_cond fun A B => ?_); simp only [go_sem, Int.cast_ofNat_Int, Nat.reduceEqDiff, reduceIte, Nat.reduceAdd, Nat.reduceMul, Nat.reduceLeDiff, Nat.reduceSub, Nat.reduceLT, Nat.zero_lt_succ, Int.reduceToNat, Int.reduceAdd, Int.reduceSub, Int.reduceMul, Int.reduceNeg, Int.reduceLT, Int.reduceLE, Int.reduceEq, Int.reduceBEq, Int.reduceBNe, Nat.reduceBEq, List.reduceReplicate, con30_f, con26_f, con36_f, con19_f, con26_c, con36_c, con19_c, g1, g2, g3, g4, arrs_length, ils_length, arrV_def, arrOf_agg, slK_sl, hP, optV, Int.toNat_natCast, Bool.not_true, Bool.not_false, e0]; first | (with_reducible refine A.h ?_) | (with_reducible refine B.h ?_) | refine And.intro (fun hc => A.h ?_) (fun hc => B.h ?_))
                    | simp only [thenQ_n, thenQ_r, thenQ_e, blockQ_n, blockQ_r, blockQ_e, scopeQ_n, scopeQ_r, scopeQ_e, Nat.reduceEqDiff, reduceIte]
                    | (with_reducible refine And.intro ?_ ?_)
                    | with_reducible intro vr)
                  all_goals try (intros; (try simp only [Bool.and_eq_true, Bool.or_eq_true, Bool.not_eq_true', decide_eq_true_eq, decide_eq_false_iff_not, beq_iff_eq, bne_iff_ne, ne_eq, inI64, List.length_append] at *) <;> omega)
                  all_goals try first | exact ha | exact hr' | exact hx'
                  refine end_ret rfl ?_
                  simp only [fin, go_sem, Int.cast_ofNat_Int, Nat.reduceEqDiff, reduceIte, Nat.reduceAdd, Nat.reduceMul, Nat.reduceLeDiff, Nat.reduceSub, Nat.reduceLT, Nat.zero_lt_succ, Int.reduceToNat, Int.reduceAdd, Int.reduceSub, Int.reduceMul, Int.reduceNeg, Int.reduceLT, Int.reduceLE, Int.reduceEq, Int.reduceBEq, Int.reduceBNe, Nat.reduceBEq, List.reduceReplicate]
                  exact LeA.refl _
            · have g1 : decide ((i : Int) < (l.length : Int)) = false := decide_eq_false (by omega)
              rw [List.drop_eq_nil_of_le hc, chkG] at hF
              · subst hF
                repeat' (first
                  | with_reducible refine t_seq fun K => ?_
                  | with_reducible refine t_block ?_
                  | with_reducible refine t_scope ?_
                  | with_reducible refine t_label ?_
                  | with_reducible refine t_skip ?_
                  | with_reducible refine t_exit ?_
                  | with_reducible refine t_ret ?_
                  | with_reducible refine t_k ?_
                  | (with_reducible refine t_gF ?_)
                  | ((first | with_reducible refine t_kE ?_ | with_reducible refine t_kD ?_ | with_reducible refine t_gS ?_ | with_reducible refine t_kL ?_ | (with_reducible refine t_kLE ?_ ?_; rotate_left) | with_reducible refine t_region fun K => ?_ | with_reducible refine t_draw (by kernel_rfl) fun K => ?_); simp only [go_sem, Int.cast_ofNat_Int, Nat.reduceEqDiff, reduceIte, Nat.reduceAdd, Nat.reduceMul, Nat.reduceLeDiff, Nat.reduceSub, Nat.reduceLT, Nat.zero_lt_succ, Int.reduceToNat, Int.reduceAdd, Int.reduceSub, Int.reduceMul, Int.reduceNeg, Int.reduceLT, Int.reduceLE, Int.reduceEq, Int.reduceBEq, Int.reduceBNe, Nat.reduceBEq, List.reduceReplicate, con30_f, con26_f, con36_f, con19_f, g1, arrs_length])
                  | (with_reducible exact kp_nil)
                  | (with_reducible exact Kp.refl _)
                  | (with_reducible exact kp_to)
                  | (with_reducible refine kp_cons ?_)
                  | (with_reducible refine kp_arr ?_)
                  | (with_reducible refine kp_app ?_)
                  | ((with_reducible refine kp_skip ?_ ?_); rfl)
                  | ((with_reducible refine t_cond fun A B => ?_); simp only [go_sem, Int.cast_ofNat_Int, Nat.reduceEqDiff, reduceIte, Nat.reduceAdd, Nat.reduceMul, Nat.reduceLeDiff, Nat.reduceSub, Nat.reduceLT, Nat.zero_lt_succ, Int.reduceToNat, Int.reduceAdd, Int.reduceSub, Int.reduceMul, Int.reduceNeg, Int.reduceLT, Int.reduceLE, Int.reduceEq, Int.reduceBEq, Int.reduceBNe, Nat.reduceBEq, List.reduceReplicate, con30_f, con26_f, con36_f, con19_f, g1, arrs_length]; first | (with_reducible refine A.h ?_) | (with_reducible refine B.h ?_) | refine And.intro (fun hc => A.h ?_) (fun hc => B.h ?_))
                  | simp only [thenQ_n, thenQ_r, thenQ_e, blockQ_n, blockQ_r, blockQ_e, scopeQ_n, scopeQ_r, scopeQ_e, Nat.reduceEqDiff, reduceIte]
                  | (with_reducible refine And.intro ?_ ?_)
                  | with_reducible intro vr)
                all_goals try (intros; (try simp only [Bool.and_eq_true, Bool.or_eq_true, Bool.not_eq_true', decide_eq_true_eq, decide_eq_false_iff_not, beq_iff_eq, bne_iff_ne, ne_eq, inI64, List.length_append] at *) <;> omega)
                refine end_ret rfl ?_
                simp only [fin, go_sem, Int.cast_ofNat_Int, Nat.reduceEqDiff, reduceIte, Nat.reduceAdd, Nat.reduceMul, Nat.reduceLeDiff, Nat.reduceSub, Nat.reduceLT, Nat.zero_lt_succ, Int.reduceToNat, Int.reduceAdd, Int.reduceSub, Int.reduceMul, Int.reduceNeg, Int.reduceLT, Int.reduceLE, Int.reduceEq, Int.reduceBEq, Int.reduceBNe, Nat.reduceBEq, List.reduceReplicate]
                exact LeA.refl _
              · intro _ _ _ _ _ _ _ _ h; cases h
        · rw [if_pos (by decide)]
          refine pc_of E26_ok mixed (fun _ => [0, 1, 2, 3, 8, 10, 11, 12, 13, 38, 40, 44, 65, 93, 104]) Try.func28 rfl (by kernel_rfl) (Nat.le_of_ble_eq_true rfl) ?_
          simp only [initF_cons, initF_nil, Nat.reduceAdd]
          refine t_name fun KF => ?_
          unfold E26
          repeat' (first
            | with_reducible refine t_seq fun K => ?_
            | with_reducible refine t_block ?_
            | with_reducible refine t_scope ?_
            | with_reducible refine t_label ?_
            | with_reducible refine t_skip ?_
            | with_reducible refine t_exit ?_
            | with_reducible refine t_ret ?_
            | with_reducible refine t_k ?_
            | (with_reducible refine t_gF ?_)
            | ((first | with_reducible refine t_kE ?_ | with_reducible refine t_kD ?_ | with_reducible refine t_gS ?_ | with_reducible refine t_kL ?_ | (with_reducible refine t_kLE ?_ ?_; rotate_left) | with_reducible refine t_region fun K => ?_ | with_reducible refine t_draw (by kernel_rfl) fun K => ?_); simp only [go_sem, Int.cast_ofNat_Int, Nat.reduceEqDiff, reduceIte, Nat.reduceAdd, Nat.reduceMul, Nat.reduceLeDiff, Nat.reduceSub, Nat.reduceLT, Nat.zero_lt_succ, Int.reduceToNat, Int.reduceAdd, Int.reduceSub, Int.reduceMul, Int.reduceNeg, Int.reduceLT, Int.reduceLE, Int.reduceEq, Int.reduceBEq, Int.reduceBNe, Nat.reduceBEq, List.reduceReplicate, con19_f, con26_f, con30_f, con36_f, con30_c, arrs_length, ils_length, slK_sl, szV_def, hS, e3, e4])
            | (with_reducible exact kp_nil)
            | (with_reducible exact Kp.refl _)
            | (with_reducible exact kp_to)
            | (with_reducible refine kp_cons ?_)
            | (with_reducible refine kp_arr ?_)
            | (with_reducible refine kp_app ?_)
            | ((with_reducible refine kp_skip ?_ ?_); rfl)
            | ((with_reducible refine t_cond fun A B => ?_); simp only [go_sem, Int.cast_ofNat_Int, Nat.reduceEqDiff, reduceIte, Nat.reduceAdd, Nat.reduceMul, Nat.reduceLeDiff, Nat.reduceSub, Nat.reduceLT, Nat.zero_lt_succ, Int.reduceToNat, Int.reduceAdd, Int.reduceSub, Int.reduceMul, Int.reduceNeg, Int.reduceLT, Int.reduceLE, Int.reduceEq, Int.reduceBEq, Int.reduceBNe, Nat.reduceBEq, List.reduceReplicate, con19_f, con26_f, con30_f, con36_f, con30_c, arrs_length, ils_length, slK_sl, szV_def, hS, e3, e4]; first | (with_reducible refine A.h ?_) | (with_reducible refine B.h ?_) | refine And.intro (fun hc => A.h ?_) (fun hc => B.h ?_))
            | simp only [thenQ_n, thenQ_r, thenQ_e, blockQ_n, blockQ_r, blockQ_e, scopeQ_n, scopeQ_r, scopeQ_e, Nat.reduceEqDiff, reduceIte]
            | (with_reducible refine And.intro ?_ ?_)
            | with_reducible intro vr)
          all_goals try (intros; (try simp only [Bool.and_eq_true, Bool.or_eq_true, Bool.not_eq_true', decide_eq_true_eq, decide_eq_false_iff_not, beq_iff_eq, bne_iff_ne, ne_eq, inI64, List.length_append] at *) <;> omega)
          refine end_ret rfl ?_
          simp only [fin, go_sem, Int.cast_ofNat_Int, Nat.reduceEqDiff, reduceIte, Nat.reduceAdd, Nat.reduceMul, Nat.reduceLeDiff, Nat.reduceSub, Nat.reduceLT, Nat.zero_lt_succ, Int.reduceToNat, Int.reduceAdd, Int.reduceSub, Int.reduceMul, Int.reduceNeg, Int.reduceLT, Int.reduceLE, Int.reduceEq, Int.reduceBEq, Int.reduceBNe, Nat.reduceBEq, List.reduceReplicate]
          exact LeA.refl _
      · have e4 : ((rs.length : Int) != (l.length : Int)) = true := bne_iff_ne.2 (by omega)
        rw [if_pos (.inr (.inr h3))]
        rcases h1' with rfl | rfl
        · skip
          refine pc_of E26_ok mixed (fun _ => [0, 1, 2, 3, 8, 10, 11, 12, 13, 38, 40, 44, 65, 93, 104]) Try.func28 rfl (by kernel_rfl) (Nat.le_of_ble_eq_true rfl) ?_
          simp only [initF_cons, initF_nil, Nat.reduceAdd]
          refine t_name fun KF => ?_
          unfold E26
          repeat' (first
            | with_reducible refine t_seq fun K => ?_
            | with_reducible refine t_block ?_
            | with_reducible refine t_scope ?_
            | with_reducible refine t_label ?_
            | with_reducible refine t_skip ?_
            | with_reducible refine t_exit ?_
            | with_reducible refine t_ret ?_
            | with_reducible refine t_k ?_
            | (with_reducible refine t_gF ?_)
            | ((first | with_reducible refine t_kE ?_ | with_reducible refine t_kD ?_ | with_reducible refine t_gS ?_ | with_reducible refine t_kL ?_ | (with_reducible refine t_kLE ?_ ?_; rotate_left) | with_reducible refine t_region fun K => ?_ | with_reducible refine t_draw (by kernel_rfl) fun K => ?_); simp only [go_sem, Int.cast_ofNat_Int, Nat.reduceEqDiff, reduceIte, Nat.reduceAdd, Nat.reduceMul, Nat.reduceLeDiff, Nat.reduceSub, Nat.reduceLT, Nat.zero_lt_succ, Int.reduceToNat, Int.reduceAdd, Int.reduceSub, Int.reduceMul, Int.reduceNeg, Int.reduceLT, Int.reduceLE, Int.reduceEq, Int.reduceBEq, Int.reduceBNe, Nat.reduceBEq, List.reduceReplicate, con19_f, con26_f, con30_f, con36_f, con30_c, arrs_length, ils_length, slK_sl, szV_def, hS, e3, e4])
            | (with_reducible exact kp_nil)
            | (with_reducible exact Kp.refl _)
            | (with_reducible exact kp_to)
            | (with_reducible refine kp_cons ?_)
            | (with_reducible refine kp_arr ?_)
            | (with_reducible refine kp_app ?_)
            | ((with_reducible refine kp_skip ?_ ?_); rfl)
            | ((with_reducible refine t_cond fun A B => ?_); simp only [go_sem, Int.cast_ofNat_Int, Nat.reduceEqDiff, reduceIte, Nat.reduceAdd, Nat.reduceMul, Nat.reduceLeDiff, Nat.reduceSub, Nat.reduceLT, Nat.zero_lt_succ, Int.reduceToNat, Int.reduceAdd, Int.reduceSub, Int.reduceMul, Int.reduceNeg, Int.reduceLT, Int.reduceLE, Int.reduceEq, Int.reduceBEq, Int.reduceBNe, Nat.reduceBEq, List.reduceReplicate, con19_f, con26_f, con30_f, con36_f, con30_c, arrs_length, ils_length, slK_sl, szV_def, hS, e3, e4]; first | (with_reducible refine A.h ?_) | (with_reducible refine B.h ?_) | refine And.intro (fun hc => A.h ?_) (fun hc => B.h ?_))
            | simp only [thenQ_n, thenQ_r, thenQ_e, blockQ_n, blockQ_r, blockQ_e, scopeQ_n, scopeQ_r, scopeQ_e, Nat.reduceEqDiff, reduceIte]
            | (with_reducible refine And.intro ?_ ?_)
            | with_reducible intro vr)
          all_goals try (intros; (try simp only [Bool.and_eq_true, Bool.or_eq_true, Bool.not_eq_true', decide_eq_true_eq, decide_eq_false_iff_not, beq_iff_eq, bne_iff_ne, ne_eq, inI64, List.length_append] at *) <;> omega)
          refine end_ret rfl ?_
          simp only [fin, go_sem, Int.cast_ofNat_Int, Nat.reduceEqDiff, reduceIte, Nat.reduceAdd, Nat.reduceMul, Nat.reduceLeDiff, Nat.reduceSub, Nat.reduceLT, Nat.zero_lt_succ, Int.reduceToNat, Int.reduceAdd, Int.reduceSub, Int.reduceMul, Int.reduceNeg, Int.reduceLT, Int.reduceLE, Int.reduceEq, Int.reduceBEq, Int.reduceBNe, Nat.reduceBEq, List.reduceReplicate]
          exact LeA.refl _
        · skip
          refine pc_of E26_ok mixed (fun _ => [0, 1, 2, 3, 8, 10, 11, 12, 13, 38, 40, 44, 65, 93, 104]) Try.func28 rfl (by kernel_rfl) (Nat.le_of_ble_eq_true rfl) ?_
          simp only [initF_cons, initF_nil, Nat.reduceAdd]
          refine t_name fun KF => ?_
          unfold E26
          repeat' (first
            | with_reducible refine t_seq fun K => ?_
            | with_reducible refine t_block ?_
            | with_reducible refine t_scope ?_
            | with_reducible refine t_label ?_
            | with_reducible refine t_skip ?_
            | with_reducible refine t_exit ?_
            | with_reducible refine t_ret ?_
            | with_reducible refine t_k ?_
            | (with_reducible refine t_gF ?_)
            | ((first | with_reducible refine t_kE ?_ | with_reducible refine t_kD ?_ | with_reducible refine t_gS ?_ | with_reducible refine t_kL ?_ | (with_reducible refine t_kLE ?_ ?_; rotate_left) | with_reducible refine t_region fun K => ?_ | with_reducible refine t_draw (by kernel_rfl) fun K => ?_); simp only [go_sem, Int.cast_ofNat_Int, Nat.reduceEqDiff, reduceIte, Nat.reduceAdd, Nat.reduceMul, Nat.reduceLeDiff, Nat.reduceSub, Nat.reduceLT, Nat.zero_lt_succ, Int.reduceToNat, Int.reduceAdd, Int.reduceSub, Int.reduceMul, Int.reduceNeg, Int.reduceLT, Int.reduceLE, Int.reduceEq, Int.reduceBEq, Int.reduceBNe, Nat.reduceBEq, List.reduceReplicate, con19_f, con26_f, con30_f, con36_f, con30_c, arrs_length, ils_length, slK_sl, szV_def, hS, e3, e4])
            | (with_reducible exact kp_nil)
            | (with_reducible exact Kp.refl _)
            | (with_reducible exact kp_to)
            | (with_reducible refine kp_cons ?_)
            | (with_reducible refine kp_arr ?_)
            | (with_reducible refine kp_app ?_)
            | ((with_reducible refine kp_skip ?_ ?_); rfl)
            | ((with_reducible refine t_cond fun A B => ?_); simp only [go_sem, Int.cast_ofNat_Int, Nat.reduceEqDiff, reduceIte, Nat.reduceAdd, Nat.reduceMul, Nat.reduceLeDiff, Nat.reduceSub, Nat.reduceLT, Nat.zero_lt_succ, Int.reduceToNat, Int.reduceAdd, Int.reduceSub, Int.reduceMul, Int.reduceNeg, Int.reduceLT, Int.reduceLE, Int.reduceEq, Int.reduceBEq, Int.reduceBNe, Nat.reduceBEq, List.reduceReplicate, con19_f, con26_f, con30_f, con36_f, con30_c, arrs_length, ils_length, slK_sl, szV_def, hS, e3, e4]; first | (with_reducible refine A.h ?_) | (with_reducible refine B.h ?_) | refine And.intro (fun hc => A.h ?_) (fun hc => B.h ?_))
            | simp only [thenQ_n, thenQ_r, thenQ_e, blockQ_n, blockQ_r, blockQ_e, scopeQ_n, scopeQ_r, scopeQ_e, Nat.reduceEqDiff, reduceIte]
            | (with_reducible refine And.intro ?_ ?_)
            | with_reducible intro vr)
          all_goals try (intros; (try simp only [Bool.and_eq_true, Bool.or_eq_true, Bool.not_eq_true', decide_eq_true_eq, decide_eq_false_iff_not, beq_iff_eq, bne_iff_ne, ne_eq, inI64, List.length_append] at *) <;> omega)
          refine end_ret rfl ?_
          simp only [fin, go_sem, Int.cast_ofNat_Int, Nat.reduceEqDiff, reduceIte, Nat.reduceAdd, Nat.reduceMul, Nat.reduceLeDiff, Nat.reduceSub, Nat.reduceLT, Nat.zero_lt_succ, Int.reduceToNat, Int.reduceAdd, Int.reduceSub, Int.reduceMul, Int.reduceNeg, Int.reduceLT, Int.reduceLE, Int.reduceEq, Int.reduceBEq, Int.reduceBNe, Nat.reduceBEq, List.reduceReplicate]
          exact LeA.refl _
    · have e3 : ((axs.length : Int) != (l.length : Int)) = true := bne_iff_ne.2 (by omega)
      rw [if_pos (.inr (.inl h2))]
      rcases h1' with rfl | rfl
      · skip
        refine pc_of E26_ok mixed (fun _ => [0, 1, 2, 3, 8, 10, 11, 12, 13, 38, 40, 44, 65, 93, 104]) Try.func28 rfl (by kernel_rfl) (Nat.le_of_ble_eq_true rfl) ?_
        simp only [initF_cons, initF_nil, Nat.reduceAdd]
        refine t_name fun KF => ?_
        unfold E26
        repeat' (first
          | with_reducible refine t_seq fun K => ?_
          | with_reducible refine t_block ?_
          | with_reducible refine t_scope ?_
          | with_reducible refine t_label ?_
          | with_reducible refine t_skip ?_
          | with_reducible refine t_exit ?_
          | with_reducible refine t_ret ?_
          | with_reducible refine t_k ?_
          | (with_reducible refine t_gF ?_)
          | ((first | with_reducible refine t_kE ?_ | with_reducible refine t_kD ?_ | with_reducible refine t_gS ?_ | with_reducible refine t_kL ?_ | (with_reducible refine t_kLE ?_ ?_; rotate_left) | with_reducible refine t_region fun K => ?_ | with_reducible refine t_draw (by kernel_rfl) fun K => ?_); simp only [go_sem, Int.cast_ofNat_Int, Nat.reduceEqDiff, reduceIte, Nat.reduceAdd, Nat.reduceMul, Nat.reduceLeDiff, Nat.reduceSub, Nat.reduceLT, Nat.zero_lt_succ, Int.reduceToNat, Int.reduceAdd, Int.reduceSub, Int.reduceMul, Int.reduceNeg, Int.reduceLT, Int.reduceLE, Int.reduceEq, Int.reduceBEq, Int.reduceBNe, Nat.reduceBEq, List.reduceReplicate, con19_f, con26_f, con30_f, con36_f, con30_c, arrs_length, ils_length, slK_sl, szV_def, hS, e3])
          | (with_reducible exact kp_nil)
          | (with_reducible exact Kp.refl _)
          | (with_reducible exact kp_to)
          | (with_reducible refine kp_cons ?_)
          | (with_reducible refine kp_arr ?_)
          | (with_reducible refine kp_app ?_)
          | ((with_reducible refine kp_skip ?_ ?_); rfl)
          | ((with_reducible refine t_cond fun A B => ?_); simp only [go_sem, Int.cast_ofNat_Int, Nat.reduceEqDiff, reduceIte, Nat.reduceAdd, Nat.reduceMul, Nat.reduceLeDiff, Nat.reduceSub, Nat.reduceLT, Nat.zero_lt_succ, Int.reduceToNat, Int.reduceAdd, Int.reduceSub, Int.reduceMul, Int.reduceNeg, Int.reduceLT, Int.reduceLE, Int.reduceEq, Int.reduceBEq, Int.reduceBNe, Nat.reduceBEq, List.reduceReplicate, con19_f, con26_f, con30_f, con36_f, con30_c, arrs_length, ils_length, slK_sl, szV_def, hS, e3]; first | (with_reducible refine A.h ?_) | (with_reducible refine B.h ?_) | refine And.intro (fun hc => A.h ?_) (fun hc => B.h ?_))
          | simp only [thenQ_n, thenQ_r, thenQ_e, blockQ_n, blockQ_r, blockQ_e, scopeQ_n, scopeQ_r, scopeQ_e, Nat.reduceEqDiff, reduceIte]
          | (with_reducible refine And.intro ?_ ?_)
          | with_reducible intro vr)
        all_goals try (intros; (try simp only [Bool.and_eq_true, Bool.or_eq_true, Bool.not_eq_true', decide_eq_true_eq, decide_eq_false_iff_not, beq_iff_eq, bne_iff_ne, ne_eq, inI64, List.length_append] at *) <;> omega)
        refine end_ret rfl ?_
        simp only [fin, go_sem, Int.cast_ofNat_Int, Nat.reduceEqDiff, reduceIte, Nat.reduceAdd, Nat.reduceMul, Nat.reduceLeDiff, Nat.reduceSub, Nat.reduceLT, Nat.zero_lt_succ, Int.reduceToNat, Int.reduceAdd, Int.reduceSub, Int.reduceMul, Int.reduceNeg, Int.reduceLT, Int.reduceLE, Int.reduceEq, Int.reduceBEq, Int.reduceBNe, Nat.reduceBEq, List.reduceReplicate]
        exact LeA.refl _
      · skip
        refine pc_of E26_ok mixed (fun _ => [0, 1, 2, 3, 8, 10, 11, 12, 13, 38, 40, 44, 65, 93, 104]) Try.func28 rfl (by kernel_rfl) (Nat.le_of_ble_eq_true rfl) ?_
        simp only [initF_cons, initF_nil, Nat.reduceAdd]
        refine t_name fun KF => ?_
        unfold E26
        repeat' (first
          | with_reducible refine t_seq fun K => ?_
          | with_reducible refine t_block ?_
          | with_reducible refine t_scope ?_
          | with_reducible refine t_label ?_
          | with_reducible refine t_skip ?_
          | with_reducible refine t_exit ?_
          | with_reducible refine t_ret ?_
          | with_reducible refine t_k ?_
          | (with_reducible refine t_gF ?_)
          | ((first | with_reducible refine t_kE ?_ | with_reducible refine t_kD ?_ | with_reducible refine t_gS ?_ | with_reducible refine t_kL ?_ | (with_reducible refine t_kLE ?_ ?_; rotate_left) | with_reducible refine t_region fun K => ?_ | with_reducible refine t_draw (by kernel_rfl) fun K => ?_); simp only [go_sem, Int.cast_ofNat_Int, Nat.reduceEqDiff, reduceIte, Nat.reduceAdd, Nat.reduceMul, Nat.reduceLeDiff, Nat.reduceSub, Nat.reduceLT, Nat.zero_lt_succ, Int.reduceToNat, Int.reduceAdd, Int.reduceSub, Int.reduceMul, Int.reduceNeg, Int.reduceLT, Int.reduceLE, Int.reduceEq, Int.reduceBEq, Int.reduceBNe, Nat.reduceBEq, List.reduceReplicate, con19_f, con26_f, con30_f, con36_f, con30_c, arrs_length, ils_length, slK_sl, szV_def, hS, e3])
          | (with_reducible exact kp_nil)
          | (with_reducible exact Kp.refl _)
          | (with_reducible exact kp_to)
          | (with_reducible refine kp_cons ?_)
          | (with_reducible refine kp_arr ?_)
          | (with_reducible refine kp_app ?_)
          | ((with_reducible refine kp_skip ?_ ?_); rfl)
          | ((with_reducible refine t_cond fun A B => ?_); simp only [go_sem, Int.cast_ofNat_Int, Nat.reduceEqDiff, reduceIte, Nat.reduceAdd, Nat.reduceMul, Nat.reduceLeDiff, Nat.reduceSub, Nat.reduceLT, Nat.zero_lt_succ, Int.reduceToNat, Int.reduceAdd, Int.reduceSub, Int.reduceMul, Int.reduceNeg, Int.reduceLT, Int.reduceLE, Int.reduceEq, Int.reduceBEq, Int.reduceBNe, Nat.reduceBEq, List.reduceReplicate, con19_f, con26_f, con30_f, con36_f, con30_c, arrs_length, ils_length, slK_sl, szV_def, hS, e3]; first | (with_reducible refine A.h ?_) | (with_reducible refine B.h ?_) | refine And.intro (fun hc => A.h ?_) (fun hc => B.h ?_))
          | simp only [thenQ_n, thenQ_r, thenQ_e, blockQ_n, blockQ_r, blockQ_e, scopeQ_n, scopeQ_r, scopeQ_e, Nat.reduceEqDiff, reduceIte]
          | (with_reducible refine And.intro ?_ ?_)
          | with_reducible intro vr)
        all_goals try (intros; (try simp only [Bool.and_eq_true, Bool.or_eq_true, Bool.not_eq_true', decide_eq_true_eq, decide_eq_false_iff_not, beq_iff_eq, bne_iff_ne, ne_eq, inI64, List.length_append] at *) <;> omega)
        refine end_ret rfl ?_
        simp only [fin, go_sem, Int.cast_ofNat_Int, Nat.reduceEqDiff, reduceIte, Nat.reduceAdd, Nat.reduceMul, Nat.reduceLeDiff, Nat.reduceSub, Nat.reduceLT, Nat.zero_lt_succ, Int.reduceToNat, Int.reduceAdd, Int.reduceSub, Int.reduceMul, Int.reduceNeg, Int.reduceLT, Int.reduceLE, Int.reduceEq, Int.reduceBEq, Int.reduceBNe, Nat.reduceBEq, List.reduceReplicate]
        exact LeA.refl _
noncomputable def con28 : PCon Try.prog where
  f := 28
  c := fun
    | [xframe, xaxs, xrs, xl] => match slK .i64 xframe, ilsOf xaxs, slK .i64 xrs, arrsOf xl with | some frame, some axs, some rs, some l => some (frame.length ≤ 1000000 ∧ (∀ x ∈ axs, x.length ≤ 1000000) ∧ l.length ≤ 1000000 ∧ (∀ r ∈ rs, inI64 r) ∧ (∀ a ∈ l, okA a), .lit (.int .i64 (chkS frame axs rs l))) | _, _, _, _ => none
    | _ => none
  ok := by
    intro args p r hc hp
    split at hc
    · split at hc
      · rename_i hframe haxs hrs hl
        cases hc
        exact PC.weak ((fun hp : _ ∧ _ ∧ _ ∧ _ ∧ _ => rchk_pc hp.1 hp.2.1 hp.2.2.1 hp.2.2.2.1 hp.2.2.2.2) hp) ⟨slK_le hframe, ilsOf_le haxs, slK_le hrs, arrsOf_le hl, trivial⟩
      · cases hc
    · cases hc
  fk := fk28
theorem con28_f : con28.f = 28 := rfl
theorem con28_c {xframe : AV} {xaxs : AV} {xrs : AV} {xl : AV} : con28.c [xframe, xaxs, xrs, xl] = match slK .i64 xframe, ilsOf xaxs, slK .i64 xrs, arrsOf xl with | some frame, some axs, some rs, some l => some (frame.length ≤ 1000000 ∧ (∀ x ∈ axs, x.length ≤ 1000000) ∧ l.length ≤ 1000000 ∧ (∀ r ∈ rs, inI64 r) ∧ (∀ a ∈ l, okA a), .lit (.int .i64 (chkS frame axs rs l))) | _, _, _, _ => none := rfl
end Go.Proofs.Ytjlcbojpiieafaa
