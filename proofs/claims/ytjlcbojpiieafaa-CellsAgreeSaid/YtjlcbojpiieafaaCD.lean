/- Frames and cells' dimensions; small arrays; zeros. -/
import Derived.Test.YtjlcbojpiieafaaCC

set_option linter.all false

namespace Go.Proofs.Ytjlcbojpiieafaa
open Go Go.Fw

def okA (a : Arr) : Prop := a.d.length ≤ 1000000 ∧ a.x.length ≤ 1000000
def spV (p : List Int × List Int × Int) : AV := .tup [.sl false 1 (ints .i64 p.1), .sl false 1 (ints .i64 p.2.1), .lit (.int .i64 p.2.2)]
theorem spV_def {p : List Int × List Int × Int} : spV p = .tup [.sl false 1 (ints .i64 p.1), .sl false 1 (ints .i64 p.2.1), .lit (.int .i64 p.2.2)] := rfl
theorem spE_le {e : Int} : LeA (.tup [.lit (.slice none 0 0), .lit (.slice none 0 0), .lit (.int .i64 e)]) (spV ([], [], e)) := LeA.tup ⟨LeA.nil _ _, LeA.nil _ _, LeA.refl _, trivial⟩
theorem bne0 {n : Int} (h : n ≠ 0) : (n == 0) = false := beq_eq_false_iff_ne.2 h
noncomputable def E10 : Env := envOf (P := Try.prog) zer (fun t => t == 15) (fun _ => false) [con60, con61] []
theorem E10_ok : EnvOk Try.prog E10 := envOk zer_ok
set_option maxRecDepth 20000 in
set_option maxHeartbeats 1000000 in
theorem split_pc {a : Arr} {r : Int} (ha : okA a) (hr : inI64 r) : PC Try.prog 20 [arrV a, .lit (.int .i64 r)] (spV (splitS a r)) := by
  obtain ⟨hd, hx⟩ := ha
  unfold splitS
  by_cases h0 : ofE a = 0
  · have e0 : (ofE a == 0) = true := by rw [h0]; rfl
    rw [if_neg (by simpa using h0)]
    by_cases h1 : r < 0
    · have r1 : decide (r < 0) = true := decide_eq_true h1
      rw [if_pos (.inl h1)]
      refine pc_of E10_ok mixed (fun _ => [0, 1, 2, 4, 5, 6, 7, 10, 21]) Try.func20 rfl (by kernel_rfl) (Nat.le_of_ble_eq_true rfl) ?_
      simp only [initF_cons, initF_nil, Nat.reduceAdd]
      refine t_name fun KF => ?_
      unfold E10
      repeat' (first
        | with_reducible refine t_seq fun K => ?_
        | with_reducible refine t_block ?_
        | with_reducible refine t_scope ?_
        | with_reducible refine t_label ?_
        | with_reducible refine t_skip ?_
        | with_reducible refine t_exit ?_
        | with_reducible refine t_ret ?_
        | with_reducible refine t_k ?_
        | (with_reducible refine t_gF ?_)
        | ((first | with_reducible refine t_kE ?_ | with_reducible refine t_kD ?_ | with_reducible refine t_gS ?_ | with_reducible refine t_kL ?_ | (with_reducible refine t_kLE ?_ ?_; rotate_left) | with_reducible refine t_region fun K => ?_ | with_reducible refine t_draw (by kernel_rfl) fun K => ?_); simp only [go_sem, Int.cast_ofNat_Int, Nat.reduceEqDiff, reduceIte, Nat.reduceAdd, Nat.reduceMul, Nat.reduceLeDiff, Nat.reduceSub, Nat.reduceLT, Nat.zero_lt_succ, Int.reduceToNat, Int.reduceAdd, Int.reduceSub, Int.reduceMul, Int.reduceNeg, Int.reduceLT, Int.reduceLE, Int.reduceEq, Int.reduceBEq, Int.reduceBNe, Nat.reduceBEq, List.reduceReplicate, con60_f, con60_c, con61_f, con61_c, arrV_def, arrOf_agg, slK_sl, e0, r1, Bool.not_true])
        | (with_reducible exact kp_nil)
        | (with_reducible exact Kp.refl _)
        | (with_reducible exact kp_to)
        | (with_reducible refine kp_cons ?_)
        | (with_reducible refine kp_arr ?_)
        | (with_reducible refine kp_app ?_)
        | ((with_reducible refine kp_skip ?_ ?_); rfl)
        | ((with_reducible refine t_cond fun A B => ?_); simp only [go_sem, Int.cast_ofNat_Int, Nat.reduceEqDiff, reduceIte, Nat.reduceAdd, Nat.reduceMul, Nat.reduceLeDiff, Nat.reduceSub, Nat.reduceLT, Nat.zero_lt_succ, Int.reduceToNat, Int.reduceAdd, Int.reduceSub, Int.reduceMul, Int.reduceNeg, Int.reduceLT, Int.reduceLE, Int.reduceEq, Int.reduceBEq, Int.reduceBNe, Nat.reduceBEq, List.reduceReplicate, con60_f, con60_c, con61_f, con61_c, arrV_def, arrOf_agg, slK_sl, e0, r1, Bool.not_true]; first | (with_reducible refine A.h ?_) | (with_reducible refine B.h ?_) | refine And.intro (fun hc => A.h ?_) (fun hc => B.h ?_))
        | simp only [thenQ_n, thenQ_r, thenQ_e, blockQ_n, blockQ_r, blockQ_e, scopeQ_n, scopeQ_r, scopeQ_e, Nat.reduceEqDiff, reduceIte]
        | (with_reducible refine And.intro ?_ ?_)
        | with_reducible intro vr)
      all_goals try (intros; (try simp only [Bool.and_eq_true, Bool.or_eq_true, Bool.not_eq_true', decide_eq_true_eq, decide_eq_false_iff_not, beq_iff_eq, bne_iff_ne, ne_eq, inI64, List.length_append] at *) <;> omega)
      refine end_ret rfl ?_
      simp only [fin, go_sem, Int.cast_ofNat_Int, Nat.reduceEqDiff, reduceIte, Nat.reduceAdd, Nat.reduceMul, Nat.reduceLeDiff, Nat.reduceSub, Nat.reduceLT, Nat.zero_lt_succ, Int.reduceToNat, Int.reduceAdd, Int.reduceSub, Int.reduceMul, Int.reduceNeg, Int.reduceLT, Int.reduceLE, Int.reduceEq, Int.reduceBEq, Int.reduceBNe, Nat.reduceBEq, List.reduceReplicate]
      exact spE_le
    · have r1 : decide (r < 0) = false := decide_eq_false h1
      have hw : IntKind.i64.wrap ((a.d.length : Int) - r) = (a.d.length : Int) - r := wrap_i64 (by unfold inI64 at *; omega)
      by_cases h2 : r > a.d.length
      · have r2 : decide ((a.d.length : Int) - r < 0) = true := decide_eq_true (by omega)
        have r3 : decide (r > (a.d.length : Int)) = true := decide_eq_true (by omega)
        rw [if_pos (.inr h2)]
        refine pc_of E10_ok mixed (fun _ => [0, 1, 2, 4, 5, 6, 7, 10, 21]) Try.func20 rfl (by kernel_rfl) (Nat.le_of_ble_eq_true rfl) ?_
        simp only [initF_cons, initF_nil, Nat.reduceAdd]
        refine t_name fun KF => ?_
        unfold E10
        repeat' (first
          | with_reducible refine t_seq fun K => ?_
          | with_reducible refine t_block ?_
          | with_reducible refine t_scope ?_
          | with_reducible refine t_label ?_
          | with_reducible refine t_skip ?_
          | with_reducible refine t_exit ?_
          | with_reducible refine t_ret ?_
          | with_reducible refine t_k ?_
          | (with_reducible refine t_gF ?_)
          | ((first | with_reducible refine t_kE ?_ | with_reducible refine t_kD ?_ | with_reducible refine t_gS ?_ | with_reducible refine t_kL ?_ | (with_reducible refine t_kLE ?_ ?_; rotate_left) | with_reducible refine t_region fun K => ?_ | with_reducible refine t_draw (by kernel_rfl) fun K => ?_); simp only [go_sem, Int.cast_ofNat_Int, Nat.reduceEqDiff, reduceIte, Nat.reduceAdd, Nat.reduceMul, Nat.reduceLeDiff, Nat.reduceSub, Nat.reduceLT, Nat.zero_lt_succ, Int.reduceToNat, Int.reduceAdd, Int.reduceSub, Int.reduceMul, Int.reduceNeg, Int.reduceLT, Int.reduceLE, Int.reduceEq, Int.reduceBEq, Int.reduceBNe, Nat.reduceBEq, List.reduceReplicate, con60_f, con60_c, con61_f, con61_c, arrV_def, arrOf_agg, slK_sl, e0, r1, r2, r3, hw, Bool.not_true])
          | (with_reducible exact kp_nil)
          | (with_reducible exact Kp.refl _)
          | (with_reducible exact kp_to)
          | (with_reducible refine kp_cons ?_)
          | (with_reducible refine kp_arr ?_)
          | (with_reducible refine kp_app ?_)
          | ((with_reducible refine kp_skip ?_ ?_); rfl)
          | ((with_reducible refine t_cond fun A B => ?_); simp only [go_sem, Int.cast_ofNat_Int, Nat.reduceEqDiff, reduceIte, Nat.reduceAdd, Nat.reduceMul, Nat.reduceLeDiff, Nat.reduceSub, Nat.reduceLT, Nat.zero_lt_succ, Int.reduceToNat, Int.reduceAdd, Int.reduceSub, Int.reduceMul, Int.reduceNeg, Int.reduceLT, Int.reduceLE, Int.reduceEq, Int.reduceBEq, Int.reduceBNe, Nat.reduceBEq, List.reduceReplicate, con60_f, con60_c, con61_f, con61_c, arrV_def, arrOf_agg, slK_sl, e0, r1, r2, r3, hw, Bool.not_true]; first | (with_reducible refine A.h ?_) | (with_reducible refine B.h ?_) | refine And.intro (fun hc => A.h ?_) (fun hc => B.h ?_))
          | simp only [thenQ_n, thenQ_r, thenQ_e, blockQ_n, blockQ_r, blockQ_e, scopeQ_n, scopeQ_r, scopeQ_e, Nat.reduceEqDiff, reduceIte]
          | (with_reducible refine And.intro ?_ ?_)
          | with_reducible intro vr)
        all_goals try (intros; (try simp only [Bool.and_eq_true, Bool.or_eq_true, Bool.not_eq_true', decide_eq_true_eq, decide_eq_false_iff_not, beq_iff_eq, bne_iff_ne, ne_eq, inI64, List.length_append] at *) <;> omega)
        refine end_ret rfl ?_
        simp only [fin, go_sem, Int.cast_ofNat_Int, Nat.reduceEqDiff, reduceIte, Nat.reduceAdd, Nat.reduceMul, Nat.reduceLeDiff, Nat.reduceSub, Nat.reduceLT, Nat.zero_lt_succ, Int.reduceToNat, Int.reduceAdd, Int.reduceSub, Int.reduceMul, Int.reduceNeg, Int.reduceLT, Int.reduceLE, Int.reduceEq, Int.reduceBEq, Int.reduceBNe, Nat.reduceBEq, List.reduceReplicate]
        exact spE_le
      · have r2 : decide ((a.d.length : Int) - r < 0) = false := decide_eq_false (by omega)
        have r3 : decide (r > (a.d.length : Int)) = false := decide_eq_false (by omega)
        rw [if_neg (by omega)]
        have hk : ((a.d.length : Int) - r).toNat = a.d.length - r.toNat := by omega
        refine pc_of E10_ok mixed (fun _ => [0, 1, 2, 4, 5, 6, 7, 10, 21]) Try.func20 rfl (by kernel_rfl) (Nat.le_of_ble_eq_true rfl) ?_
        simp only [initF_cons, initF_nil, Nat.reduceAdd]
        refine t_name fun KF => ?_
        unfold E10
        repeat' (first
          | with_reducible refine t_seq fun K => ?_
          | with_reducible refine t_block ?_
          | with_reducible refine t_scope ?_
          | with_reducible refine t_label ?_
          | with_reducible refine t_skip ?_
          | with_reducible refine t_exit ?_
          | with_reducible refine t_ret ?_
          | with_reducible refine t_k ?_
          | (with_reducible refine t_gF ?_)
          | ((first | with_reducible refine t_kE ?_ | with_reducible refine t_kD ?_ | with_reducible refine t_gS ?_ | with_reducible refine t_kL ?_ | (with_reducible refine t_kLE ?_ ?_; rotate_left) | with_reducible refine t_region fun K => ?_ | with_reducible refine t_draw (by kernel_rfl) fun K => ?_); simp only [go_sem, Int.cast_ofNat_Int, Nat.reduceEqDiff, reduceIte, Nat.reduceAdd, Nat.reduceMul, Nat.reduceLeDiff, Nat.reduceSub, Nat.reduceLT, Nat.zero_lt_succ, Int.reduceToNat, Int.reduceAdd, Int.reduceSub, Int.reduceMul, Int.reduceNeg, Int.reduceLT, Int.reduceLE, Int.reduceEq, Int.reduceBEq, Int.reduceBNe, Nat.reduceBEq, List.reduceReplicate, con60_f, con60_c, con61_f, con61_c, arrV_def, arrOf_agg, slK_sl, e0, r1, r2, r3, hw, hk, Bool.not_true, Bool.false_and, Int.toNat_natCast, List.take_length])
          | (with_reducible exact kp_nil)
          | (with_reducible exact Kp.refl _)
          | (with_reducible exact kp_to)
          | (with_reducible refine kp_cons ?_)
          | (with_reducible refine kp_arr ?_)
          | (with_reducible refine kp_app ?_)
          | ((with_reducible refine kp_skip ?_ ?_); rfl)
          | ((with_reducible refine t_cond fun A B => ?_); simp only [go_sem, Int.cast_ofNat_Int, Nat.reduceEqDiff, reduceIte, Nat.reduceAdd, Nat.reduceMul, Nat.reduceLeDiff, Nat.reduceSub, Nat.reduceLT, Nat.zero_lt_succ, Int.reduceToNat, Int.reduceAdd, Int.reduceSub, Int.reduceMul, Int.reduceNeg, Int.reduceLT, Int.reduceLE, Int.reduceEq, Int.reduceBEq, Int.reduceBNe, Nat.reduceBEq, List.reduceReplicate, con60_f, con60_c, con61_f, con61_c, arrV_def, arrOf_agg, slK_sl, e0, r1, r2, r3, hw, hk, Bool.not_true, Bool.false_and, Int.toNat_natCast, List.take_length]; first | (with_reducible refine A.h ?_) | (with_reducible refine B.h ?_) | refine And.intro (fun hc => A.h ?_) (fun hc => B.h ?_))
          | simp only [thenQ_n, thenQ_r, thenQ_e, blockQ_n, blockQ_r, blockQ_e, scopeQ_n, scopeQ_r, scopeQ_e, Nat.reduceEqDiff, reduceIte]
          | (with_reducible refine And.intro ?_ ?_)
          | with_reducible intro vr)
        all_goals try (intros; (try simp only [Bool.and_eq_true, Bool.or_eq_true, Bool.not_eq_true', decide_eq_true_eq, decide_eq_false_iff_not, beq_iff_eq, bne_iff_ne, ne_eq, inI64, List.length_append] at *) <;> omega)
        all_goals try (simp only [List.length_take, List.length_drop]; omega)
        refine end_ret rfl ?_
        simp only [fin, go_sem, Int.cast_ofNat_Int, Nat.reduceEqDiff, reduceIte, Nat.reduceAdd, Nat.reduceMul, Nat.reduceLeDiff, Nat.reduceSub, Nat.reduceLT, Nat.zero_lt_succ, Int.reduceToNat, Int.reduceAdd, Int.reduceSub, Int.reduceMul, Int.reduceNeg, Int.reduceLT, Int.reduceLE, Int.reduceEq, Int.reduceBEq, Int.reduceBNe, Nat.reduceBEq, List.reduceReplicate]
        exact LeA.refl _
  · have e0 : (ofE a == 0) = false := bne0 h0
    rw [if_pos (by simpa using h0)]
    refine pc_of E10_ok mixed (fun _ => [0, 1, 2, 4, 5, 6, 7, 10, 21]) Try.func20 rfl (by kernel_rfl) (Nat.le_of_ble_eq_true rfl) ?_
    simp only [initF_cons, initF_nil, Nat.reduceAdd]
    refine t_name fun KF => ?_
    unfold E10
    repeat' (first
      | with_reducible refine t_seq fun K => ?_
      | with_reducible refine t_block ?_
      | with_reducible refine t_scope ?_
      | with_reducible refine t_label ?_
      | with_reducible refine t_skip ?_
      | with_reducible refine t_exit ?_
      | with_reducible refine t_ret ?_
      | with_reducible refine t_k ?_
      | (with_reducible refine t_gF ?_)
      | ((first | with_reducible refine t_kE ?_ | with_reducible refine t_kD ?_ | with_reducible refine t_gS ?_ | with_reducible refine t_kL ?_ | (with_reducible refine t_kLE ?_ ?_; rotate_left) | with_reducible refine t_region fun K => ?_ | with_reducible refine t_draw (by kernel_rfl) fun K => ?_); simp only [go_sem, Int.cast_ofNat_Int, Nat.reduceEqDiff, reduceIte, Nat.reduceAdd, Nat.reduceMul, Nat.reduceLeDiff, Nat.reduceSub, Nat.reduceLT, Nat.zero_lt_succ, Int.reduceToNat, Int.reduceAdd, Int.reduceSub, Int.reduceMul, Int.reduceNeg, Int.reduceLT, Int.reduceLE, Int.reduceEq, Int.reduceBEq, Int.reduceBNe, Nat.reduceBEq, List.reduceReplicate, con60_f, con60_c, con61_f, con61_c, arrV_def, arrOf_agg, slK_sl, e0, Bool.not_false])
      | (with_reducible exact kp_nil)
      | (with_reducible exact Kp.refl _)
      | (with_reducible exact kp_to)
      | (with_reducible refine kp_cons ?_)
      | (with_reducible refine kp_arr ?_)
      | (with_reducible refine kp_app ?_)
      | ((with_reducible refine kp_skip ?_ ?_); rfl)
      | ((with_reducible refine t_cond fun A B => ?_); simp only [go_sem, Int.cast_ofNat_Int, Nat.reduceEqDiff, reduceIte, Nat.reduceAdd, Nat.reduceMul, Nat.reduceLeDiff, Nat.reduceSub, Nat.reduceLT, Nat.zero_lt_succ, Int.reduceToNat, Int.reduceAdd, Int.reduceSub, Int.reduceMul, Int.reduceNeg, Int.reduceLT, Int.reduceLE, Int.reduceEq, Int.reduceBEq, Int.reduceBNe, Nat.reduceBEq, List.reduceReplicate, con60_f, con60_c, con61_f, con61_c, arrV_def, arrOf_agg, slK_sl, e0, Bool.not_false]; first | (with_reducible refine A.h ?_) | (with_reducible refine B.h ?_) | refine And.intro (fun hc => A.h ?_) (fun hc => B.h ?_))
      | simp only [thenQ_n, thenQ_r, thenQ_e, blockQ_n, blockQ_r, blockQ_e, scopeQ_n, scopeQ_r, scopeQ_e, Nat.reduceEqDiff, reduceIte]
      | (with_reducible refine And.intro ?_ ?_)
      | with_reducible intro vr)
    all_goals try (intros; (try simp only [Bool.and_eq_true, Bool.or_eq_true, Bool.not_eq_true', decide_eq_true_eq, decide_eq_false_iff_not, beq_iff_eq, bne_iff_ne, ne_eq, inI64, List.length_append] at *) <;> omega)
    refine end_ret rfl ?_
    simp only [fin, go_sem, Int.cast_ofNat_Int, Nat.reduceEqDiff, reduceIte, Nat.reduceAdd, Nat.reduceMul, Nat.reduceLeDiff, Nat.reduceSub, Nat.reduceLT, Nat.zero_lt_succ, Int.reduceToNat, Int.reduceAdd, Int.reduceSub, Int.reduceMul, Int.reduceNeg, Int.reduceLT, Int.reduceLE, Int.reduceEq, Int.reduceBEq, Int.reduceBNe, Nat.reduceBEq, List.reduceReplicate]
    exact spE_le
noncomputable def con20 : PCon Try.prog where
  f := 20
  c := fun
    | [xa, .lit (.int .i64 r)] => match arrOf xa with | some a => some (okA a ∧ inI64 r, spV (splitS a r)) | _ => none
    | _ => none
  ok := by
    intro args p r hc hp
    split at hc
    · split at hc
      · rename_i ha
        cases hc
        exact PC.weak ((fun hp : _ ∧ _ => split_pc hp.1 hp.2) hp) ⟨arrOf_le ha, LeA.refl _, trivial⟩
      · cases hc
    · cases hc
  fk := fk20
theorem con20_f : con20.f = 20 := rfl
theorem con20_c {xa : AV} {r : Int} : con20.c [xa, .lit (.int .i64 r)] = match arrOf xa with | some a => some (okA a ∧ inI64 r, spV (splitS a r)) | _ => none := rfl
noncomputable def E11 : Env := envOf (P := Try.prog) zer (fun t => t == 24) (fun _ => false) [con36, con62] []
theorem E11_ok : EnvOk Try.prog E11 := envOk zer_ok
set_option maxRecDepth 20000 in
set_option maxHeartbeats 1000000 in
theorem rsplit_pc {a : Arr} {r : Int} (ha : okA a) (hr : inI64 r) : PC Try.prog 21 [arrV a, .lit (.int .i64 r)] (spV (splitS a r)) := by
  obtain ⟨hd, hx⟩ := ha
  unfold splitS
  by_cases h0 : ofE a = 0
  · have e0 : (ofE a == 0) = true := by rw [h0]; rfl
    rw [if_neg (by simpa using h0)]
    by_cases h1 : r < 0
    · have r1 : decide (r < 0) = true := decide_eq_true h1
      rw [if_pos (.inl h1)]
      refine pc_of E11_ok mixed (fun _ => [0, 1, 2, 4, 5, 6, 7, 10, 19]) Try.func21 rfl (by kernel_rfl) (Nat.le_of_ble_eq_true rfl) ?_
      simp only [initF_cons, initF_nil, Nat.reduceAdd]
      refine t_name fun KF => ?_
      unfold E11
      repeat' (first
        | with_reducible refine t_seq fun K => ?_
        | with_reducible refine t_block ?_
        | with_reducible refine t_scope ?_
        | with_reducible refine t_label ?_
        | with_reducible refine t_skip ?_
        | with_reducible refine t_exit ?_
        | with_reducible refine t_ret ?_
        | with_reducible refine t_k ?_
        | (with_reducible refine t_gF ?_)
        | ((first | with_reducible refine t_kE ?_ | with_reducible refine t_kD ?_ | with_reducible refine t_gS ?_ | with_reducible refine t_kL ?_ | (with_reducible refine t_kLE ?_ ?_; rotate_left) | with_reducible refine t_region fun K => ?_ | with_reducible refine t_draw (by kernel_rfl) fun K => ?_); simp only [go_sem, Int.cast_ofNat_Int, Nat.reduceEqDiff, reduceIte, Nat.reduceAdd, Nat.reduceMul, Nat.reduceLeDiff, Nat.reduceSub, Nat.reduceLT, Nat.zero_lt_succ, Int.reduceToNat, Int.reduceAdd, Int.reduceSub, Int.reduceMul, Int.reduceNeg, Int.reduceLT, Int.reduceLE, Int.reduceEq, Int.reduceBEq, Int.reduceBNe, Nat.reduceBEq, List.reduceReplicate, con36_f, con36_c, con62_f, con62_c, arrV_def, arrOf_agg, slK_sl, e0, r1, Bool.not_true])
        | (with_reducible exact kp_nil)
        | (with_reducible exact Kp.refl _)
        | (with_reducible exact kp_to)
        | (with_reducible refine kp_cons ?_)
        | (with_reducible refine kp_arr ?_)
        | (with_reducible refine kp_app ?_)
        | ((with_reducible refine kp_skip ?_ ?_); rfl)
        | ((with_reducible refine t_cond fun A B => ?_); simp only [go_sem, Int.cast_ofNat_Int, Nat.reduceEqDiff, reduceIte, Nat.reduceAdd, Nat.reduceMul, Nat.reduceLeDiff, Nat.reduceSub, Nat.reduceLT, Nat.zero_lt_succ, Int.reduceToNat, Int.reduceAdd, Int.reduceSub, Int.reduceMul, Int.reduceNeg, Int.reduceLT, Int.reduceLE, Int.reduceEq, Int.reduceBEq, Int.reduceBNe, Nat.reduceBEq, List.reduceReplicate, con36_f, con36_c, con62_f, con62_c, arrV_def, arrOf_agg, slK_sl, e0, r1, Bool.not_true]; first | (with_reducible refine A.h ?_) | (with_reducible refine B.h ?_) | refine And.intro (fun hc => A.h ?_) (fun hc => B.h ?_))
        | simp only [thenQ_n, thenQ_r, thenQ_e, blockQ_n, blockQ_r, blockQ_e, scopeQ_n, scopeQ_r, scopeQ_e, Nat.reduceEqDiff, reduceIte]
        | (with_reducible refine And.intro ?_ ?_)
        | with_reducible intro vr)
      all_goals try (intros; (try simp only [Bool.and_eq_true, Bool.or_eq_true, Bool.not_eq_true', decide_eq_true_eq, decide_eq_false_iff_not, beq_iff_eq, bne_iff_ne, ne_eq, inI64, List.length_append] at *) <;> omega)
      refine end_ret rfl ?_
      simp only [fin, go_sem, Int.cast_ofNat_Int, Nat.reduceEqDiff, reduceIte, Nat.reduceAdd, Nat.reduceMul, Nat.reduceLeDiff, Nat.reduceSub, Nat.reduceLT, Nat.zero_lt_succ, Int.reduceToNat, Int.reduceAdd, Int.reduceSub, Int.reduceMul, Int.reduceNeg, Int.reduceLT, Int.reduceLE, Int.reduceEq, Int.reduceBEq, Int.reduceBNe, Nat.reduceBEq, List.reduceReplicate]
      exact spE_le
    · have r1 : decide (r < 0) = false := decide_eq_false h1
      have hw : IntKind.i64.wrap ((a.d.length : Int) - r) = (a.d.length : Int) - r := wrap_i64 (by unfold inI64 at *; omega)
      by_cases h2 : r > a.d.length
      · have r2 : decide ((a.d.length : Int) - r < 0) = true := decide_eq_true (by omega)
        have r3 : decide (r > (a.d.length : Int)) = true := decide_eq_true (by omega)
        rw [if_pos (.inr h2)]
        refine pc_of E11_ok mixed (fun _ => [0, 1, 2, 4, 5, 6, 7, 10, 19]) Try.func21 rfl (by kernel_rfl) (Nat.le_of_ble_eq_true rfl) ?_
        simp only [initF_cons, initF_nil, Nat.reduceAdd]
        refine t_name fun KF => ?_
        unfold E11
        repeat' (first
          | with_reducible refine t_seq fun K => ?_
          | with_reducible refine t_block ?_
          | with_reducible refine t_scope ?_
          | with_reducible refine t_label ?_
          | with_reducible refine t_skip ?_
          | with_reducible refine t_exit ?_
          | with_reducible refine t_ret ?_
          | with_reducible refine t_k ?_
          | (with_reducible refine t_gF ?_)
          | ((first | with_reducible refine t_kE ?_ | with_reducible refine t_kD ?_ | with_reducible refine t_gS ?_ | with_reducible refine t_kL ?_ | (with_reducible refine t_kLE ?_ ?_; rotate_left) | with_reducible refine t_region fun K => ?_ | with_reducible refine t_draw (by kernel_rfl) fun K => ?_); simp only [go_sem, Int.cast_ofNat_Int, Nat.reduceEqDiff, reduceIte, Nat.reduceAdd, Nat.reduceMul, Nat.reduceLeDiff, Nat.reduceSub, Nat.reduceLT, Nat.zero_lt_succ, Int.reduceToNat, Int.reduceAdd, Int.reduceSub, Int.reduceMul, Int.reduceNeg, Int.reduceLT, Int.reduceLE, Int.reduceEq, Int.reduceBEq, Int.reduceBNe, Nat.reduceBEq, List.reduceReplicate, con36_f, con36_c, con62_f, con62_c, arrV_def, arrOf_agg, slK_sl, e0, r1, r2, r3, hw, Bool.not_true])
          | (with_reducible exact kp_nil)
          | (with_reducible exact Kp.refl _)
          | (with_reducible exact kp_to)
          | (with_reducible refine kp_cons ?_)
          | (with_reducible refine kp_arr ?_)
          | (with_reducible refine kp_app ?_)
          | ((with_reducible refine kp_skip ?_ ?_); rfl)
          | ((with_reducible refine t_cond fun A B => ?_); simp only [go_sem, Int.cast_ofNat_Int, Nat.reduceEqDiff, reduceIte, Nat.reduceAdd, Nat.reduceMul, Nat.reduceLeDiff, Nat.reduceSub, Nat.reduceLT, Nat.zero_lt_succ, Int.reduceToNat, Int.reduceAdd, Int.reduceSub, Int.reduceMul, Int.reduceNeg, Int.reduceLT, Int.reduceLE, Int.reduceEq, Int.reduceBEq, Int.reduceBNe, Nat.reduceBEq, List.reduceReplicate, con36_f, con36_c, con62_f, con62_c, arrV_def, arrOf_agg, slK_sl, e0, r1, r2, r3, hw, Bool.not_true]; first | (with_reducible refine A.h ?_) | (with_reducible refine B.h ?_) | refine And.intro (fun hc => A.h ?_) (fun hc => B.h ?_))
          | simp only [thenQ_n, thenQ_r, thenQ_e, blockQ_n, blockQ_r, blockQ_e, scopeQ_n, scopeQ_r, scopeQ_e, Nat.reduceEqDiff, reduceIte]
          | (with_reducible refine And.intro ?_ ?_)
          | with_reducible intro vr)
        all_goals try (intros; (try simp only [Bool.and_eq_true, Bool.or_eq_true, Bool.not_eq_true', decide_eq_true_eq, decide_eq_false_iff_not, beq_iff_eq, bne_iff_ne, ne_eq, inI64, List.length_append] at *) <;> omega)
        refine end_ret rfl ?_
        simp only [fin, go_sem, Int.cast_ofNat_Int, Nat.reduceEqDiff, reduceIte, Nat.reduceAdd, Nat.reduceMul, Nat.reduceLeDiff, Nat.reduceSub, Nat.reduceLT, Nat.zero_lt_succ, Int.reduceToNat, Int.reduceAdd, Int.reduceSub, Int.reduceMul, Int.reduceNeg, Int.reduceLT, Int.reduceLE, Int.reduceEq, Int.reduceBEq, Int.reduceBNe, Nat.reduceBEq, List.reduceReplicate]
        exact spE_le
      · have r2 : decide ((a.d.length : Int) - r < 0) = false := decide_eq_false (by omega)
        have r3 : decide (r > (a.d.length : Int)) = false := decide_eq_false (by omega)
        rw [if_neg (by omega)]
        have hk : ((a.d.length : Int) - r).toNat = a.d.length - r.toNat := by omega
        refine pc_of E11_ok mixed (fun _ => [0, 1, 2, 4, 5, 6, 7, 10, 19]) Try.func21 rfl (by kernel_rfl) (Nat.le_of_ble_eq_true rfl) ?_
        simp only [initF_cons, initF_nil, Nat.reduceAdd]
        refine t_name fun KF => ?_
        unfold E11
        repeat' (first
          | with_reducible refine t_seq fun K => ?_
          | with_reducible refine t_block ?_
          | with_reducible refine t_scope ?_
          | with_reducible refine t_label ?_
          | with_reducible refine t_skip ?_
          | with_reducible refine t_exit ?_
          | with_reducible refine t_ret ?_
          | with_reducible refine t_k ?_
          | (with_reducible refine t_gF ?_)
          | ((first | with_reducible refine t_kE ?_ | with_reducible refine t_kD ?_ | with_reducible refine t_gS ?_ | with_reducible refine t_kL ?_ | (with_reducible refine t_kLE ?_ ?_; rotate_left) | with_reducible refine t_region fun K => ?_ | with_reducible refine t_draw (by kernel_rfl) fun K => ?_); simp only [go_sem, Int.cast_ofNat_Int, Nat.reduceEqDiff, reduceIte, Nat.reduceAdd, Nat.reduceMul, Nat.reduceLeDiff, Nat.reduceSub, Nat.reduceLT, Nat.zero_lt_succ, Int.reduceToNat, Int.reduceAdd, Int.reduceSub, Int.reduceMul, Int.reduceNeg, Int.reduceLT, Int.reduceLE, Int.reduceEq, Int.reduceBEq, Int.reduceBNe, Nat.reduceBEq, List.reduceReplicate, con36_f, con36_c, con62_f, con62_c, arrV_def, arrOf_agg, slK_sl, e0, r1, r2, r3, hw, hk, Bool.not_true, Bool.false_and, Int.toNat_natCast, List.take_length])
          | (with_reducible exact kp_nil)
          | (with_reducible exact Kp.refl _)
          | (with_reducible exact kp_to)
          | (with_reducible refine kp_cons ?_)
          | (with_reducible refine kp_arr ?_)
          | (with_reducible refine kp_app ?_)
          | ((with_reducible refine kp_skip ?_ ?_); rfl)
          | ((with_reducible refine t_cond fun A B => ?_); simp only [go_sem, Int.cast_ofNat_Int, Nat.reduceEqDiff, reduceIte, Nat.reduceAdd, Nat.reduceMul, Nat.reduceLeDiff, Nat.reduceSub, Nat.reduceLT, Nat.zero_lt_succ, Int.reduceToNat, Int.reduceAdd, Int.reduceSub, Int.reduceMul, Int.reduceNeg, Int.reduceLT, Int.reduceLE, Int.reduceEq, Int.reduceBEq, Int.reduceBNe, Nat.reduceBEq, List.reduceReplicate, con36_f, con36_c, con62_f, con62_c, arrV_def, arrOf_agg, slK_sl, e0, r1, r2, r3, hw, hk, Bool.not_true, Bool.false_and, Int.toNat_natCast, List.take_length]; first | (with_reducible refine A.h ?_) | (with_reducible refine B.h ?_) | refine And.intro (fun hc => A.h ?_) (fun hc => B.h ?_))
          | simp only [thenQ_n, thenQ_r, thenQ_e, blockQ_n, blockQ_r, blockQ_e, scopeQ_n, scopeQ_r, scopeQ_e, Nat.reduceEqDiff, reduceIte]
          | (with_reducible refine And.intro ?_ ?_)
          | with_reducible intro vr)
        all_goals try (intros; (try simp only [Bool.and_eq_true, Bool.or_eq_true, Bool.not_eq_true', decide_eq_true_eq, decide_eq_false_iff_not, beq_iff_eq, bne_iff_ne, ne_eq, inI64, List.length_append] at *) <;> omega)
        all_goals try (simp only [List.length_take, List.length_drop]; omega)
        refine end_ret rfl ?_
        simp only [fin, go_sem, Int.cast_ofNat_Int, Nat.reduceEqDiff, reduceIte, Nat.reduceAdd, Nat.reduceMul, Nat.reduceLeDiff, Nat.reduceSub, Nat.reduceLT, Nat.zero_lt_succ, Int.reduceToNat, Int.reduceAdd, Int.reduceSub, Int.reduceMul, Int.reduceNeg, Int.reduceLT, Int.reduceLE, Int.reduceEq, Int.reduceBEq, Int.reduceBNe, Nat.reduceBEq, List.reduceReplicate]
        exact LeA.refl _
  · have e0 : (ofE a == 0) = false := bne0 h0
    rw [if_pos (by simpa using h0)]
    refine pc_of E11_ok mixed (fun _ => [0, 1, 2, 4, 5, 6, 7, 10, 19]) Try.func21 rfl (by kernel_rfl) (Nat.le_of_ble_eq_true rfl) ?_
    simp only [initF_cons, initF_nil, Nat.reduceAdd]
    refine t_name fun KF => ?_
    unfold E11
    repeat' (first
      | with_reducible refine t_seq fun K => ?_
      | with_reducible refine t_block ?_
      | with_reducible refine t_scope ?_
      | with_reducible refine t_label ?_
      | with_reducible refine t_skip ?_
      | with_reducible refine t_exit ?_
      | with_reducible refine t_ret ?_
      | with_reducible refine t_k ?_
      | (with_reducible refine t_gF ?_)
      | ((first | with_reducible refine t_kE ?_ | with_reducible refine t_kD ?_ | with_reducible refine t_gS ?_ | with_reducible refine t_kL ?_ | (with_reducible refine t_kLE ?_ ?_; rotate_left) | with_reducible refine t_region fun K => ?_ | with_reducible refine t_draw (by kernel_rfl) fun K => ?_); simp only [go_sem, Int.cast_ofNat_Int, Nat.reduceEqDiff, reduceIte, Nat.reduceAdd, Nat.reduceMul, Nat.reduceLeDiff, Nat.reduceSub, Nat.reduceLT, Nat.zero_lt_succ, Int.reduceToNat, Int.reduceAdd, Int.reduceSub, Int.reduceMul, Int.reduceNeg, Int.reduceLT, Int.reduceLE, Int.reduceEq, Int.reduceBEq, Int.reduceBNe, Nat.reduceBEq, List.reduceReplicate, con36_f, con36_c, con62_f, con62_c, arrV_def, arrOf_agg, slK_sl, e0, Bool.not_false])
      | (with_reducible exact kp_nil)
      | (with_reducible exact Kp.refl _)
      | (with_reducible exact kp_to)
      | (with_reducible refine kp_cons ?_)
      | (with_reducible refine kp_arr ?_)
      | (with_reducible refine kp_app ?_)
      | ((with_reducible refine kp_skip ?_ ?_); rfl)
      | ((with_reducible refine t_cond fun A B => ?_); simp only [go_sem, Int.cast_ofNat_Int, Nat.reduceEqDiff, reduceIte, Nat.reduceAdd, Nat.reduceMul, Nat.reduceLeDiff, Nat.reduceSub, Nat.reduceLT, Nat.zero_lt_succ, Int.reduceToNat, Int.reduceAdd, Int.reduceSub, Int.reduceMul, Int.reduceNeg, Int.reduceLT, Int.reduceLE, Int.reduceEq, Int.reduceBEq, Int.reduceBNe, Nat.reduceBEq, List.reduceReplicate, con36_f, con36_c, con62_f, con62_c, arrV_def, arrOf_agg, slK_sl, e0, Bool.not_false]; first | (with_reducible refine A.h ?_) | (with_reducible refine B.h ?_) | refine And.intro (fun hc => A.h ?_) (fun hc => B.h ?_))
      | simp only [thenQ_n, thenQ_r, thenQ_e, blockQ_n, blockQ_r, blockQ_e, scopeQ_n, scopeQ_r, scopeQ_e, Nat.reduceEqDiff, reduceIte]
      | (with_reducible refine And.intro ?_ ?_)
      | with_reducible intro vr)
    all_goals try (intros; (try simp only [Bool.and_eq_true, Bool.or_eq_true, Bool.not_eq_true', decide_eq_true_eq, decide_eq_false_iff_not, beq_iff_eq, bne_iff_ne, ne_eq, inI64, List.length_append] at *) <;> omega)
    refine end_ret rfl ?_
    simp only [fin, go_sem, Int.cast_ofNat_Int, Nat.reduceEqDiff, reduceIte, Nat.reduceAdd, Nat.reduceMul, Nat.reduceLeDiff, Nat.reduceSub, Nat.reduceLT, Nat.zero_lt_succ, Int.reduceToNat, Int.reduceAdd, Int.reduceSub, Int.reduceMul, Int.reduceNeg, Int.reduceLT, Int.reduceLE, Int.reduceEq, Int.reduceBEq, Int.reduceBNe, Nat.reduceBEq, List.reduceReplicate]
    exact spE_le
noncomputable def con21 : PCon Try.prog where
  f := 21
  c := fun
    | [xa, .lit (.int .i64 r)] => match arrOf xa with | some a => some (okA a ∧ inI64 r, spV (splitS a r)) | _ => none
    | _ => none
  ok := by
    intro args p r hc hp
    split at hc
    · split at hc
      · rename_i ha
        cases hc
        exact PC.weak ((fun hp : _ ∧ _ => rsplit_pc hp.1 hp.2) hp) ⟨arrOf_le ha, LeA.refl _, trivial⟩
      · cases hc
    · cases hc
  fk := fk21
theorem con21_f : con21.f = 21 := rfl
theorem con21_c {xa : AV} {r : Int} : con21.c [xa, .lit (.int .i64 r)] = match arrOf xa with | some a => some (okA a ∧ inI64 r, spV (splitS a r)) | _ => none := rfl
def fewA (a : Arr) (n : Int) : Bool := decide ((a.e.size : Int) ≤ 20) && (decide ((a.d.length : Int) ≤ 8) && decide ((a.x.length : Int) ≤ n))
theorem few_pc {a : Arr} {n : Int} : PC Try.prog 31 [arrV a, .lit (.int .i64 n)] (.lit (.bool (fewA a n))) := by
  unfold fewA
  by_cases h1 : (a.e.size : Int) ≤ 20
  · have e1 : decide ((a.e.size : Int) ≤ 20) = true := decide_eq_true h1
    by_cases h2 : (a.d.length : Int) ≤ 8
    · have e2 : decide ((a.d.length : Int) ≤ 8) = true := decide_eq_true h2
      rw [e1, e2]
      refine pc_of E0_ok mixed (fun _ => [0, 1, 2, 4]) Try.func31 rfl (by kernel_rfl) (Nat.le_of_ble_eq_true rfl) ?_
      simp only [initF_cons, initF_nil, Nat.reduceAdd]
      refine t_name fun KF => ?_
      unfold E0
      repeat' (first
        | with_reducible refine t_seq fun K => ?_
        | with_reducible refine t_block ?_
        | with_reducible refine t_scope ?_
        | with_reducible refine t_label ?_
        | with_reducible refine t_skip ?_
        | with_reducible refine t_exit ?_
        | with_reducible refine t_ret ?_
        | with_reducible refine t_k ?_
        | (with_reducible refine t_gF ?_)
        | ((first | with_reducible refine t_kE ?_ | with_reducible refine t_kD ?_ | with_reducible refine t_gS ?_ | with_reducible refine t_kL ?_ | (with_reducible refine t_kLE ?_ ?_; rotate_left) | with_reducible refine t_region fun K => ?_ | with_reducible refine t_draw (by kernel_rfl) fun K => ?_); simp only [go_sem, Int.cast_ofNat_Int, Nat.reduceEqDiff, reduceIte, Nat.reduceAdd, Nat.reduceMul, Nat.reduceLeDiff, Nat.reduceSub, Nat.reduceLT, Nat.zero_lt_succ, Int.reduceToNat, Int.reduceAdd, Int.reduceSub, Int.reduceMul, Int.reduceNeg, Int.reduceLT, Int.reduceLE, Int.reduceEq, Int.reduceBEq, Int.reduceBNe, Nat.reduceBEq, List.reduceReplicate, arrV_def, e1, e2])
        | (with_reducible exact kp_nil)
        | (with_reducible exact Kp.refl _)
        | (with_reducible exact kp_to)
        | (with_reducible refine kp_cons ?_)
        | (with_reducible refine kp_arr ?_)
        | (with_reducible refine kp_app ?_)
        | ((with_reducible refine kp_skip ?_ ?_); rfl)
        | ((with_reducible refine t_cond fun A B => ?_); simp only [go_sem, Int.cast_ofNat_Int, Nat.reduceEqDiff, reduceIte, Nat.reduceAdd, Nat.reduceMul, Nat.reduceLeDiff, Nat.reduceSub, Nat.reduceLT, Nat.zero_lt_succ, Int.reduceToNat, Int.reduceAdd, Int.reduceSub, Int.reduceMul, Int.reduceNeg, Int.reduceLT, Int.reduceLE, Int.reduceEq, Int.reduceBEq, Int.reduceBNe, Nat.reduceBEq, List.reduceReplicate, arrV_def, e1, e2]; first | (with_reducible refine A.h ?_) | (with_reducible refine B.h ?_) | refine And.intro (fun hc => A.h ?_) (fun hc => B.h ?_))
        | simp only [thenQ_n, thenQ_r, thenQ_e, blockQ_n, blockQ_r, blockQ_e, scopeQ_n, scopeQ_r, scopeQ_e, Nat.reduceEqDiff, reduceIte]
        | (with_reducible refine And.intro ?_ ?_)
        | with_reducible intro vr)
      all_goals try (intros; (try simp only [Bool.and_eq_true, Bool.or_eq_true, Bool.not_eq_true', decide_eq_true_eq, decide_eq_false_iff_not, beq_iff_eq, bne_iff_ne, ne_eq, inI64, List.length_append] at *) <;> omega)
      refine end_ret rfl ?_
      simp only [fin, go_sem, Int.cast_ofNat_Int, Nat.reduceEqDiff, reduceIte, Nat.reduceAdd, Nat.reduceMul, Nat.reduceLeDiff, Nat.reduceSub, Nat.reduceLT, Nat.zero_lt_succ, Int.reduceToNat, Int.reduceAdd, Int.reduceSub, Int.reduceMul, Int.reduceNeg, Int.reduceLT, Int.reduceLE, Int.reduceEq, Int.reduceBEq, Int.reduceBNe, Nat.reduceBEq, List.reduceReplicate]
      exact LeA.refl _
    · have e2 : decide ((a.d.length : Int) ≤ 8) = false := decide_eq_false h2
      rw [e1, e2]
      refine pc_of E0_ok mixed (fun _ => [0, 1, 2, 4]) Try.func31 rfl (by kernel_rfl) (Nat.le_of_ble_eq_true rfl) ?_
      simp only [initF_cons, initF_nil, Nat.reduceAdd]
      refine t_name fun KF => ?_
      unfold E0
      repeat' (first
        | with_reducible refine t_seq fun K => ?_
        | with_reducible refine t_block ?_
        | with_reducible refine t_scope ?_
        | with_reducible refine t_label ?_
        | with_reducible refine t_skip ?_
        | with_reducible refine t_exit ?_
        | with_reducible refine t_ret ?_
        | with_reducible refine t_k ?_
        | (with_reducible refine t_gF ?_)
        | ((first | with_reducible refine t_kE ?_ | with_reducible refine t_kD ?_ | with_reducible refine t_gS ?_ | with_reducible refine t_kL ?_ | (with_reducible refine t_kLE ?_ ?_; rotate_left) | with_reducible refine t_region fun K => ?_ | with_reducible refine t_draw (by kernel_rfl) fun K => ?_); simp only [go_sem, Int.cast_ofNat_Int, Nat.reduceEqDiff, reduceIte, Nat.reduceAdd, Nat.reduceMul, Nat.reduceLeDiff, Nat.reduceSub, Nat.reduceLT, Nat.zero_lt_succ, Int.reduceToNat, Int.reduceAdd, Int.reduceSub, Int.reduceMul, Int.reduceNeg, Int.reduceLT, Int.reduceLE, Int.reduceEq, Int.reduceBEq, Int.reduceBNe, Nat.reduceBEq, List.reduceReplicate, arrV_def, e1, e2])
        | (with_reducible exact kp_nil)
        | (with_reducible exact Kp.refl _)
        | (with_reducible exact kp_to)
        | (with_reducible refine kp_cons ?_)
        | (with_reducible refine kp_arr ?_)
        | (with_reducible refine kp_app ?_)
        | ((with_reducible refine kp_skip ?_ ?_); rfl)
        | ((with_reducible refine t_cond fun A B => ?_); simp only [go_sem, Int.cast_ofNat_Int, Nat.reduceEqDiff, reduceIte, Nat.reduceAdd, Nat.reduceMul, Nat.reduceLeDiff, Nat.reduceSub, Nat.reduceLT, Nat.zero_lt_succ, Int.reduceToNat, Int.reduceAdd, Int.reduceSub, Int.reduceMul, Int.reduceNeg, Int.reduceLT, Int.reduceLE, Int.reduceEq, Int.reduceBEq, Int.reduceBNe, Nat.reduceBEq, List.reduceReplicate, arrV_def, e1, e2]; first | (with_reducible refine A.h ?_) | (with_reducible refine B.h ?_) | refine And.intro (fun hc => A.h ?_) (fun hc => B.h ?_))
        | simp only [thenQ_n, thenQ_r, thenQ_e, blockQ_n, blockQ_r, blockQ_e, scopeQ_n, scopeQ_r, scopeQ_e, Nat.reduceEqDiff, reduceIte]
        | (with_reducible refine And.intro ?_ ?_)
        | with_reducible intro vr)
      all_goals try (intros; (try simp only [Bool.and_eq_true, Bool.or_eq_true, Bool.not_eq_true', decide_eq_true_eq, decide_eq_false_iff_not, beq_iff_eq, bne_iff_ne, ne_eq, inI64, List.length_append] at *) <;> omega)
      refine end_ret rfl ?_
      simp only [fin, go_sem, Int.cast_ofNat_Int, Nat.reduceEqDiff, reduceIte, Nat.reduceAdd, Nat.reduceMul, Nat.reduceLeDiff, Nat.reduceSub, Nat.reduceLT, Nat.zero_lt_succ, Int.reduceToNat, Int.reduceAdd, Int.reduceSub, Int.reduceMul, Int.reduceNeg, Int.reduceLT, Int.reduceLE, Int.reduceEq, Int.reduceBEq, Int.reduceBNe, Nat.reduceBEq, List.reduceReplicate]
      exact LeA.refl _
  · have e1 : decide ((a.e.size : Int) ≤ 20) = false := decide_eq_false h1
    rw [e1]
    refine pc_of E0_ok mixed (fun _ => [0, 1, 2, 4]) Try.func31 rfl (by kernel_rfl) (Nat.le_of_ble_eq_true rfl) ?_
    simp only [initF_cons, initF_nil, Nat.reduceAdd]
    refine t_name fun KF => ?_
    unfold E0
    repeat' (first
      | with_reducible refine t_seq fun K => ?_
      | with_reducible refine t_block ?_
      | with_reducible refine t_scope ?_
      | with_reducible refine t_label ?_
      | with_reducible refine t_skip ?_
      | with_reducible refine t_exit ?_
      | with_reducible refine t_ret ?_
      | with_reducible refine t_k ?_
      | (with_reducible refine t_gF ?_)
      | ((first | with_reducible refine t_kE ?_ | with_reducible refine t_kD ?_ | with_reducible refine t_gS ?_ | with_reducible refine t_kL ?_ | (with_reducible refine t_kLE ?_ ?_; rotate_left) | with_reducible refine t_region fun K => ?_ | with_reducible refine t_draw (by kernel_rfl) fun K => ?_); simp only [go_sem, Int.cast_ofNat_Int, Nat.reduceEqDiff, reduceIte, Nat.reduceAdd, Nat.reduceMul, Nat.reduceLeDiff, Nat.reduceSub, Nat.reduceLT, Nat.zero_lt_succ, Int.reduceToNat, Int.reduceAdd, Int.reduceSub, Int.reduceMul, Int.reduceNeg, Int.reduceLT, Int.reduceLE, Int.reduceEq, Int.reduceBEq, Int.reduceBNe, Nat.reduceBEq, List.reduceReplicate, arrV_def, e1])
      | (with_reducible exact kp_nil)
      | (with_reducible exact Kp.refl _)
      | (with_reducible exact kp_to)
      | (with_reducible refine kp_cons ?_)
      | (with_reducible refine kp_arr ?_)
      | (with_reducible refine kp_app ?_)
      | ((with_reducible refine kp_skip ?_ ?_); rfl)
      | ((with_reducible refine t_cond fun A B => ?_); simp only [go_sem, Int.cast_ofNat_Int, Nat.reduceEqDiff, reduceIte, Nat.reduceAdd, Nat.reduceMul, Nat.reduceLeDiff, Nat.reduceSub, Nat.reduceLT, Nat.zero_lt_succ, Int.reduceToNat, Int.reduceAdd, Int.reduceSub, Int.reduceMul, Int.reduceNeg, Int.reduceLT, Int.reduceLE, Int.reduceEq, Int.reduceBEq, Int.reduceBNe, Nat.reduceBEq, List.reduceReplicate, arrV_def, e1]; first | (with_reducible refine A.h ?_) | (with_reducible refine B.h ?_) | refine And.intro (fun hc => A.h ?_) (fun hc => B.h ?_))
      | simp only [thenQ_n, thenQ_r, thenQ_e, blockQ_n, blockQ_r, blockQ_e, scopeQ_n, scopeQ_r, scopeQ_e, Nat.reduceEqDiff, reduceIte]
      | (with_reducible refine And.intro ?_ ?_)
      | with_reducible intro vr)
    all_goals try (intros; (try simp only [Bool.and_eq_true, Bool.or_eq_true, Bool.not_eq_true', decide_eq_true_eq, decide_eq_false_iff_not, beq_iff_eq, bne_iff_ne, ne_eq, inI64, List.length_append] at *) <;> omega)
    refine end_ret rfl ?_
    simp only [fin, go_sem, Int.cast_ofNat_Int, Nat.reduceEqDiff, reduceIte, Nat.reduceAdd, Nat.reduceMul, Nat.reduceLeDiff, Nat.reduceSub, Nat.reduceLT, Nat.zero_lt_succ, Int.reduceToNat, Int.reduceAdd, Int.reduceSub, Int.reduceMul, Int.reduceNeg, Int.reduceLT, Int.reduceLE, Int.reduceEq, Int.reduceBEq, Int.reduceBNe, Nat.reduceBEq, List.reduceReplicate]
    exact LeA.refl _
noncomputable def con31 : PCon Try.prog where
  f := 31
  c := fun
    | [xa, .lit (.int .i64 n)] => match arrOf xa with | some a => some (True, .lit (.bool (fewA a n))) | _ => none
    | _ => none
  ok := by
    intro args p r hc hp
    split at hc
    · split at hc
      · rename_i ha
        cases hc
        exact PC.weak few_pc ⟨arrOf_le ha, LeA.refl _, trivial⟩
      · cases hc
    · cases hc
  fk := fk31
theorem con31_f : con31.f = 31 := rfl
theorem con31_c {xa : AV} {n : Int} : con31.c [xa, .lit (.int .i64 n)] = match arrOf xa with | some a => some (True, .lit (.bool (fewA a n))) | _ => none := rfl
def fewL (l : List Arr) : Bool := (l.all fun a => fewA a 100) && decide ((l.length : Int) ≤ 4)
noncomputable def E12 : Env := envOf (P := Try.prog) zer (fun _ => false) (fun _ => false) [con31] []
theorem E12_ok : EnvOk Try.prog E12 := envOk zer_ok
theorem fewl_pc {l : List Arr} (hm : l.length ≤ 9223372036854775807) : PC Try.prog 16 [.sl false 3 (arrs l)] (.lit (.bool (fewL l))) := by
  unfold fewL
  generalize hB : (l.all fun a => fewA a 100) = Bb
  refine pc_of E12_ok mixed (fun _ => [0, 2, 3, 7, 15]) Try.func16 rfl (by kernel_rfl) (Nat.le_of_ble_eq_true rfl) ?_
  simp only [initF_cons, initF_nil, Nat.reduceAdd]
  refine t_name fun KF => ?_
  unfold E12
  repeat' (first
    | with_reducible refine t_seq fun K => ?_
    | with_reducible refine t_block ?_
    | with_reducible refine t_scope ?_
    | with_reducible refine t_label ?_
    | with_reducible refine t_skip ?_
    | with_reducible refine t_exit ?_
    | with_reducible refine t_ret ?_
    | with_reducible refine t_k ?_
    | (with_reducible refine t_gF ?_)
    | ((first | with_reducible refine t_kE ?_ | with_reducible refine t_kD ?_ | with_reducible refine t_gS ?_ | with_reducible refine t_kL ?_ | (with_reducible refine t_kLE ?_ ?_; rotate_left) | with_reducible refine t_region fun K => ?_ | with_reducible refine t_draw (by kernel_rfl) fun K => ?_); simp only [go_sem, Int.cast_ofNat_Int, Nat.reduceEqDiff, reduceIte, Nat.reduceAdd, Nat.reduceMul, Nat.reduceLeDiff, Nat.reduceSub, Nat.reduceLT, Nat.zero_lt_succ, Int.reduceToNat, Int.reduceAdd, Int.reduceSub, Int.reduceMul, Int.reduceNeg, Int.reduceLT, Int.reduceLE, Int.reduceEq, Int.reduceBEq, Int.reduceBNe, Nat.reduceBEq, List.reduceReplicate, con31_f, arrs_length])
    | (with_reducible exact kp_nil)
    | (with_reducible exact Kp.refl _)
    | (with_reducible exact kp_to)
    | (with_reducible refine kp_cons ?_)
    | (with_reducible refine kp_arr ?_)
    | (with_reducible refine kp_app ?_)
    | ((with_reducible refine kp_skip ?_ ?_); rfl)
    | ((with_reducible refine t_cond fun A B => ?_); simp only [go_sem, Int.cast_ofNat_Int, Nat.reduceEqDiff, reduceIte, Nat.reduceAdd, Nat.reduceMul, Nat.reduceLeDiff, Nat.reduceSub, Nat.reduceLT, Nat.zero_lt_succ, Int.reduceToNat, Int.reduceAdd, Int.reduceSub, Int.reduceMul, Int.reduceNeg, Int.reduceLT, Int.reduceLE, Int.reduceEq, Int.reduceBEq, Int.reduceBNe, Nat.reduceBEq, List.reduceReplicate, con31_f, arrs_length]; first | (with_reducible refine A.h ?_) | (with_reducible refine B.h ?_) | refine And.intro (fun hc => A.h ?_) (fun hc => B.h ?_))
    | simp only [thenQ_n, thenQ_r, thenQ_e, blockQ_n, blockQ_r, blockQ_e, scopeQ_n, scopeQ_r, scopeQ_e, Nat.reduceEqDiff, reduceIte]
    | (with_reducible refine And.intro ?_ ?_)
    | with_reducible intro vr)
  refine t_loop (ι := { i : Nat // i ≤ l.length ∧ ((l.drop i).all fun a => fewA a 100) = Bb }) (fun i => ⟨upd (upd topF 3 (.lit (.int .i64 i.1))) 0 (.sl false 3 (arrs l)), []⟩) (fun i => l.length - i.1) ⟨0, by omega, hB⟩ ?_ ?_
  · skip
    (refine Le.frame ?_; repeat' (first | exact leF_top _ | (with_reducible refine leF_sl ?_ ?_) | (refine leF_upd (LeR.of_eq ?_) ?_))) <;> (try (simp only [go_sem, Int.cast_ofNat_Int, Nat.reduceEqDiff, reduceIte, Nat.reduceAdd, Nat.reduceMul, Nat.reduceLeDiff, Nat.reduceSub, Nat.reduceLT, Nat.zero_lt_succ, Int.reduceToNat, Int.reduceAdd, Int.reduceSub, Int.reduceMul, Int.reduceNeg, Int.reduceLT, Int.reduceLE, Int.reduceEq, Int.reduceBEq, Int.reduceBNe, Nat.reduceBEq, List.reduceReplicate]; try rfl))
  · rintro ⟨i, hi, hF⟩ K0
    rcases Nat.lt_or_ge i l.length with hc | hc
    · have g1 : decide ((i : Int) < (l.length : Int)) = true := decide_eq_true (by omega)
      have g2 := arrs_getD l i hc
      rw [drop_getD nilA hc, List.all_cons] at hF
      generalize l.getD i nilA = a at g2 hF
      by_cases hv : fewA a 100 = true
      · rw [hv, Bool.true_and] at hF
        repeat' (first
          | with_reducible refine t_seq fun K => ?_
          | with_reducible refine t_block ?_
          | with_reducible refine t_scope ?_
          | with_reducible refine t_label ?_
          | with_reducible refine t_skip ?_
          | with_reducible refine t_exit ?_
          | with_reducible refine t_ret ?_
          | with_reducible refine t_k ?_
          | (with_reducible refine t_gF ?_)
          | ((first | with_reducible refine t_kE ?_ | with_reducible refine t_kD ?_ | with_reducible refine t_gS ?_ | with_reducible refine t_kL ?_ | (with_reducible refine t_kLE ?_ ?_; rotate_left) | with_reducible refine t_region fun K => ?_ | with_reducible refine t_draw (by kernel_rfl) fun K => ?_); simp only [go_sem, Int.cast_ofNat_Int, Nat.reduceEqDiff, reduceIte, Nat.reduceAdd, Nat.reduceMul, Nat.reduceLeDiff, Nat.reduceSub, Nat.reduceLT, Nat.zero_lt_succ, Int.reduceToNat, Int.reduceAdd, Int.reduceSub, Int.reduceMul, Int.reduceNeg, Int.reduceLT, Int.reduceLE, Int.reduceEq, Int.reduceBEq, Int.reduceBNe, Nat.reduceBEq, List.reduceReplicate, con31_f, con31_c, g1, g2, hv, arrs_length, arrV_def, arrOf_agg, slK_sl, Int.toNat_natCast, Bool.not_true])
          | (with_reducible exact kp_nil)
          | (with_reducible exact Kp.refl _)
          | (with_reducible exact kp_to)
          | (with_reducible refine kp_cons ?_)
          | (with_reducible refine kp_arr ?_)
          | (with_reducible refine kp_app ?_)
          | ((with_reducible refine kp_skip ?_ ?_); rfl)
          | ((with_reducible refine t_cond fun A B => ?_); simp only [go_sem, Int.cast_ofNat_Int, Nat.reduceEqDiff, reduceIte, Nat.reduceAdd, Nat.reduceMul, Nat.reduceLeDiff, Nat.reduceSub, Nat.reduceLT, Nat.zero_lt_succ, Int.reduceToNat, Int.reduceAdd, Int.reduceSub, Int.reduceMul, Int.reduceNeg, Int.reduceLT, Int.reduceLE, Int.reduceEq, Int.reduceBEq, Int.reduceBNe, Nat.reduceBEq, List.reduceReplicate, con31_f, con31_c, g1, g2, hv, arrs_length, arrV_def, arrOf_agg, slK_sl, Int.toNat_natCast, Bool.not_true]; first | (with_reducible refine A.h ?_) | (with_reducible refine B.h ?_) | refine And.intro (fun hc => A.h ?_) (fun hc => B.h ?_))
          | simp only [thenQ_n, thenQ_r, thenQ_e, blockQ_n, blockQ_r, blockQ_e, scopeQ_n, scopeQ_r, scopeQ_e, Nat.reduceEqDiff, reduceIte]
          | (with_reducible refine And.intro ?_ ?_)
          | with_reducible intro vr)
        all_goals try (intros; (try simp only [Bool.and_eq_true, Bool.or_eq_true, Bool.not_eq_true', decide_eq_true_eq, decide_eq_false_iff_not, beq_iff_eq, bne_iff_ne, ne_eq, inI64, List.length_append] at *) <;> omega)
        refine ⟨⟨i + 1, by omega, hF⟩, by simp only; omega, ?_⟩
        (refine Le.frame ?_; repeat' (first | exact leF_top _ | (with_reducible refine leF_sl ?_ ?_) | (refine leF_upd (LeR.of_eq ?_) ?_))) <;> (try (simp only [go_sem, Int.cast_ofNat_Int, Nat.reduceEqDiff, reduceIte, Nat.reduceAdd, Nat.reduceMul, Nat.reduceLeDiff, Nat.reduceSub, Nat.reduceLT, Nat.zero_lt_succ, Int.reduceToNat, Int.reduceAdd, Int.reduceSub, Int.reduceMul, Int.reduceNeg, Int.reduceLT, Int.reduceLE, Int.reduceEq, Int.reduceBEq, Int.reduceBNe, Nat.reduceBEq, List.reduceReplicate]; try rfl))
      · have hv' : fewA a 100 = false := by simpa using hv
        rw [hv', Bool.false_and] at hF
        subst hF
        repeat' (first
          | with_reducible refine t_seq fun K => ?_
          | with_reducible refine t_block ?_
          | with_reducible refine t_scope ?_
          | with_reducible refine t_label ?_
          | with_reducible refine t_skip ?_
          | with_reducible refine t_exit ?_
          | with_reducible refine t_ret ?_
          | with_reducible refine t_k ?_
          | (with_reducible refine t_gF ?_)
          | ((first | with_reducible refine t_kE ?_ | with_reducible refine t_kD ?_ | with_reducible refine t_gS ?_ | with_reducible refine t_kL ?_ | (with_reducible refine t_kLE ?_ ?_; rotate_left) | with_reducible refine t_region fun K => ?_ | with_reducible refine t_draw (by kernel_rfl) fun K => ?_); simp only [go_sem, Int.cast_ofNat_Int, Nat.reduceEqDiff, reduceIte, Nat.reduceAdd, Nat.reduceMul, Nat.reduceLeDiff, Nat.reduceSub, Nat.reduceLT, Nat.zero_lt_succ, Int.reduceToNat, Int.reduceAdd, Int.reduceSub, Int.reduceMul, Int.reduceNeg, Int.reduceLT, Int.reduceLE, Int.reduceEq, Int.reduceBEq, Int.reduceBNe, Nat.reduceBEq, List.reduceReplicate, con31_f, con31_c, g1, g2, hv', arrs_length, arrV_def, arrOf_agg, slK_sl, Int.toNat_natCast, Bool.not_false])
          | (with_reducible exact kp_nil)
          | (with_reducible exact Kp.refl _)
          | (with_reducible exact kp_to)
          | (with_reducible refine kp_cons ?_)
          | (with_reducible refine kp_arr ?_)
          | (with_reducible refine kp_app ?_)
          | ((with_reducible refine kp_skip ?_ ?_); rfl)
          | ((with_reducible refine t_cond fun A B => ?_); simp only [go_sem, Int.cast_ofNat_Int, Nat.reduceEqDiff, reduceIte, Nat.reduceAdd, Nat.reduceMul, Nat.reduceLeDiff, Nat.reduceSub, Nat.reduceLT, Nat.zero_lt_succ, Int.reduceToNat, Int.reduceAdd, Int.reduceSub, Int.reduceMul, Int.reduceNeg, Int.reduceLT, Int.reduceLE, Int.reduceEq, Int.reduceBEq, Int.reduceBNe, Nat.reduceBEq, List.reduceReplicate, con31_f, con31_c, g1, g2, hv', arrs_length, arrV_def, arrOf_agg, slK_sl, Int.toNat_natCast, Bool.not_false]; first | (with_reducible refine A.h ?_) | (with_reducible refine B.h ?_) | refine And.intro (fun hc => A.h ?_) (fun hc => B.h ?_))
          | simp only [thenQ_n, thenQ_r, thenQ_e, blockQ_n, blockQ_r, blockQ_e, scopeQ_n, scopeQ_r, scopeQ_e, Nat.reduceEqDiff, reduceIte]
          | (with_reducible refine And.intro ?_ ?_)
          | with_reducible intro vr)
        all_goals try (intros; (try simp only [Bool.and_eq_true, Bool.or_eq_true, Bool.not_eq_true', decide_eq_true_eq, decide_eq_false_iff_not, beq_iff_eq, bne_iff_ne, ne_eq, inI64, List.length_append] at *) <;> omega)
        refine end_ret rfl ?_
        simp only [fin, go_sem, Int.cast_ofNat_Int, Nat.reduceEqDiff, reduceIte, Nat.reduceAdd, Nat.reduceMul, Nat.reduceLeDiff, Nat.reduceSub, Nat.reduceLT, Nat.zero_lt_succ, Int.reduceToNat, Int.reduceAdd, Int.reduceSub, Int.reduceMul, Int.reduceNeg, Int.reduceLT, Int.reduceLE, Int.reduceEq, Int.reduceBEq, Int.reduceBNe, Nat.reduceBEq, List.reduceReplicate]
        exact LeA.refl _
    · have g1 : decide ((i : Int) < (l.length : Int)) = false := decide_eq_false (by omega)
      rw [List.drop_eq_nil_of_le hc, List.all_nil] at hF
      subst hF
      repeat' (first
        | with_reducible refine t_seq fun K => ?_
        | with_reducible refine t_block ?_
        | with_reducible refine t_scope ?_
        | with_reducible refine t_label ?_
        | with_reducible refine t_skip ?_
        | with_reducible refine t_exit ?_
        | with_reducible refine t_ret ?_
        | with_reducible refine t_k ?_
        | (with_reducible refine t_gF ?_)
        | ((first | with_reducible refine t_kE ?_ | with_reducible refine t_kD ?_ | with_reducible refine t_gS ?_ | with_reducible refine t_kL ?_ | (with_reducible refine t_kLE ?_ ?_; rotate_left) | with_reducible refine t_region fun K => ?_ | with_reducible refine t_draw (by kernel_rfl) fun K => ?_); simp only [go_sem, Int.cast_ofNat_Int, Nat.reduceEqDiff, reduceIte, Nat.reduceAdd, Nat.reduceMul, Nat.reduceLeDiff, Nat.reduceSub, Nat.reduceLT, Nat.zero_lt_succ, Int.reduceToNat, Int.reduceAdd, Int.reduceSub, Int.reduceMul, Int.reduceNeg, Int.reduceLT, Int.reduceLE, Int.reduceEq, Int.reduceBEq, Int.reduceBNe, Nat.reduceBEq, List.reduceReplicate, con31_f, g1, arrs_length])
        | (with_reducible exact kp_nil)
        | (with_reducible exact Kp.refl _)
        | (with_reducible exact kp_to)
        | (with_reducible refine kp_cons ?_)
        | (with_reducible refine kp_arr ?_)
        | (with_reducible refine kp_app ?_)
        | ((with_reducible refine kp_skip ?_ ?_); rfl)
        | ((with_reducible refine t_cond fun A B => ?_); simp only [go_sem, Int.cast_ofNat_Int, Nat.reduceEqDiff, reduceIte, Nat.reduceAdd, Nat.reduceMul, Nat.reduceLeDiff, Nat.reduceSub, Nat.reduceLT, Nat.zero_lt_succ, Int.reduceToNat, Int.reduceAdd, Int.reduceSub, Int.reduceMul, Int.reduceNeg, Int.reduceLT, Int.reduceLE, Int.reduceEq, Int.reduceBEq, Int.reduceBNe, Nat.reduceBEq, List.reduceReplicate, con31_f, g1, arrs_length]; first | (with_reducible refine A.h ?_) | (with_reducible refine B.h ?_) | refine And.intro (fun hc => A.h ?_) (fun hc => B.h ?_))
        | simp only [thenQ_n, thenQ_r, thenQ_e, blockQ_n, blockQ_r, blockQ_e, scopeQ_n, scopeQ_r, scopeQ_e, Nat.reduceEqDiff, reduceIte]
        | (with_reducible refine And.intro ?_ ?_)
        | with_reducible intro vr)
      refine end_ret rfl ?_
      simp only [fin, go_sem, Int.cast_ofNat_Int, Nat.reduceEqDiff, reduceIte, Nat.reduceAdd, Nat.reduceMul, Nat.reduceLeDiff, Nat.reduceSub, Nat.reduceLT, Nat.zero_lt_succ, Int.reduceToNat, Int.reduceAdd, Int.reduceSub, Int.reduceMul, Int.reduceNeg, Int.reduceLT, Int.reduceLE, Int.reduceEq, Int.reduceBEq, Int.reduceBNe, Nat.reduceBEq, List.reduceReplicate]
      exact LeA.refl _
noncomputable def con16 : PCon Try.prog where
  f := 16
  c := fun
    | [xl] => match arrsOf xl with | some l => some (l.length ≤ 9223372036854775807, .lit (.bool (fewL l))) | _ => none
    | _ => none
  ok := by
    intro args p r hc hp
    split at hc
    · split at hc
      · rename_i hl
        cases hc
        exact PC.weak (fewl_pc hp) ⟨arrsOf_le hl, trivial⟩
      · cases hc
    · cases hc
  fk := fk16
theorem con16_f : con16.f = 16 := rfl
theorem con16_c {xl : AV} : con16.c [xl] = match arrsOf xl with | some l => some (l.length ≤ 9223372036854775807, .lit (.bool (fewL l))) | _ => none := rfl
/-- Zeros, with an error. -/
def zerosS (e : ByteArray) (d : List Int) : Arr × Int := if tyOk e = false then (nilA, 12) else if (sizeS d).2 ≠ 0 then (nilA, (sizeS d).2) else ofS ⟨e, d, List.replicate (sizeS d).1.toNat 0⟩
noncomputable def E13 : Env := envOf (P := Try.prog) zer (fun _ => false) (fun _ => false) [con30, con63] []
theorem E13_ok : EnvOk Try.prog E13 := envOk zer_ok
theorem rep_ints (m : Nat) : List.replicate m (AV.lit (.int .i64 0)) = ints .i64 (List.replicate m 0) := by simp [ints]
set_option maxRecDepth 20000 in
set_option maxHeartbeats 1000000 in
theorem zeros_pc {e : ByteArray} {d : List Int} (hd : d.length ≤ 1000000) : PC Try.prog 37 [.lit (.string e), .sl false 1 (ints .i64 d)] (aeV (zerosS e d)) := by
  have hz := sizeS_bd d
  unfold zerosS
  by_cases t : tyOk e = true
  · rw [if_neg (by rw [t]; decide)]
    generalize hS : sizeS d = s at hz
    obtain ⟨n, er⟩ := s
    simp only at hz
    by_cases t1 : eqS e ⟨#[105, 110, 116]⟩ = true
    · skip
      by_cases e0 : er = 0
      · subst e0
        rw [if_neg (by simp)]
        have hr : n.toNat ≤ 1000000 := by omega
        refine pc_of E13_ok mixed (fun _ => [0, 1, 4, 5, 6, 7, 13, 21]) Try.func37 rfl (by kernel_rfl) (Nat.le_of_ble_eq_true rfl) ?_
        simp only [initF_cons, initF_nil, Nat.reduceAdd]
        refine t_name fun KF => ?_
        unfold E13
        repeat' (first
          | with_reducible refine t_seq fun K => ?_
          | with_reducible refine t_block ?_
          | with_reducible refine t_scope ?_
          | with_reducible refine t_label ?_
          | with_reducible refine t_skip ?_
          | with_reducible refine t_exit ?_
          | with_reducible refine t_ret ?_
          | with_reducible refine t_k ?_
          | (with_reducible refine t_gF ?_)
          | ((first | with_reducible refine t_kE ?_ | with_reducible refine t_kD ?_ | with_reducible refine t_gS ?_ | with_reducible refine t_kL ?_ | (with_reducible refine t_kLE ?_ ?_; rotate_left) | with_reducible refine t_region fun K => ?_ | with_reducible refine t_draw (by kernel_rfl) fun K => ?_); simp only [go_sem, Int.cast_ofNat_Int, Nat.reduceEqDiff, reduceIte, Nat.reduceAdd, Nat.reduceMul, Nat.reduceLeDiff, Nat.reduceSub, Nat.reduceLT, Nat.zero_lt_succ, Int.reduceToNat, Int.reduceAdd, Int.reduceSub, Int.reduceMul, Int.reduceNeg, Int.reduceLT, Int.reduceLE, Int.reduceEq, Int.reduceBEq, Int.reduceBNe, Nat.reduceBEq, List.reduceReplicate, con30_f, con63_f, con30_c, con63_c, slK_sl, szV_def, hS, t1, rep_ints, aeV_def, arrV_def, List.length_replicate])
          | (with_reducible exact kp_nil)
          | (with_reducible exact Kp.refl _)
          | (with_reducible exact kp_to)
          | (with_reducible refine kp_cons ?_)
          | (with_reducible refine kp_arr ?_)
          | (with_reducible refine kp_app ?_)
          | ((with_reducible refine kp_skip ?_ ?_); rfl)
          | ((with_reducible refine t_cond fun A B => ?_); simp only [go_sem, Int.cast_ofNat_Int, Nat.reduceEqDiff, reduceIte, Nat.reduceAdd, Nat.reduceMul, Nat.reduceLeDiff, Nat.reduceSub, Nat.reduceLT, Nat.zero_lt_succ, Int.reduceToNat, Int.reduceAdd, Int.reduceSub, Int.reduceMul, Int.reduceNeg, Int.reduceLT, Int.reduceLE, Int.reduceEq, Int.reduceBEq, Int.reduceBNe, Nat.reduceBEq, List.reduceReplicate, con30_f, con63_f, con30_c, con63_c, slK_sl, szV_def, hS, t1, rep_ints, aeV_def, arrV_def, List.length_replicate]; first | (with_reducible refine A.h ?_) | (with_reducible refine B.h ?_) | refine And.intro (fun hc => A.h ?_) (fun hc => B.h ?_))
          | simp only [thenQ_n, thenQ_r, thenQ_e, blockQ_n, blockQ_r, blockQ_e, scopeQ_n, scopeQ_r, scopeQ_e, Nat.reduceEqDiff, reduceIte]
          | (with_reducible refine And.intro ?_ ?_)
          | with_reducible intro vr)
        all_goals try (intros; (try simp only [Bool.and_eq_true, Bool.or_eq_true, Bool.not_eq_true', decide_eq_true_eq, decide_eq_false_iff_not, beq_iff_eq, bne_iff_ne, ne_eq, inI64, List.length_append] at *) <;> omega)
        refine end_ret rfl ?_
        simp only [fin, go_sem, Int.cast_ofNat_Int, Nat.reduceEqDiff, reduceIte, Nat.reduceAdd, Nat.reduceMul, Nat.reduceLeDiff, Nat.reduceSub, Nat.reduceLT, Nat.zero_lt_succ, Int.reduceToNat, Int.reduceAdd, Int.reduceSub, Int.reduceMul, Int.reduceNeg, Int.reduceLT, Int.reduceLE, Int.reduceEq, Int.reduceBEq, Int.reduceBNe, Nat.reduceBEq, List.reduceReplicate]
        exact LeA.refl _
      · have e1 : (er != 0) = true := by rw [bne_iff_ne]; exact e0
        rw [if_pos (by simpa using e0)]
        refine pc_of E13_ok mixed (fun _ => [0, 1, 4, 5, 6, 7, 13, 21]) Try.func37 rfl (by kernel_rfl) (Nat.le_of_ble_eq_true rfl) ?_
        simp only [initF_cons, initF_nil, Nat.reduceAdd]
        refine t_name fun KF => ?_
        unfold E13
        repeat' (first
          | with_reducible refine t_seq fun K => ?_
          | with_reducible refine t_block ?_
          | with_reducible refine t_scope ?_
          | with_reducible refine t_label ?_
          | with_reducible refine t_skip ?_
          | with_reducible refine t_exit ?_
          | with_reducible refine t_ret ?_
          | with_reducible refine t_k ?_
          | (with_reducible refine t_gF ?_)
          | ((first | with_reducible refine t_kE ?_ | with_reducible refine t_kD ?_ | with_reducible refine t_gS ?_ | with_reducible refine t_kL ?_ | (with_reducible refine t_kLE ?_ ?_; rotate_left) | with_reducible refine t_region fun K => ?_ | with_reducible refine t_draw (by kernel_rfl) fun K => ?_); simp only [go_sem, Int.cast_ofNat_Int, Nat.reduceEqDiff, reduceIte, Nat.reduceAdd, Nat.reduceMul, Nat.reduceLeDiff, Nat.reduceSub, Nat.reduceLT, Nat.zero_lt_succ, Int.reduceToNat, Int.reduceAdd, Int.reduceSub, Int.reduceMul, Int.reduceNeg, Int.reduceLT, Int.reduceLE, Int.reduceEq, Int.reduceBEq, Int.reduceBNe, Nat.reduceBEq, List.reduceReplicate, con30_f, con63_f, con30_c, con63_c, slK_sl, szV_def, hS, t1, e1])
          | (with_reducible exact kp_nil)
          | (with_reducible exact Kp.refl _)
          | (with_reducible exact kp_to)
          | (with_reducible refine kp_cons ?_)
          | (with_reducible refine kp_arr ?_)
          | (with_reducible refine kp_app ?_)
          | ((with_reducible refine kp_skip ?_ ?_); rfl)
          | ((with_reducible refine t_cond fun A B => ?_); simp only [go_sem, Int.cast_ofNat_Int, Nat.reduceEqDiff, reduceIte, Nat.reduceAdd, Nat.reduceMul, Nat.reduceLeDiff, Nat.reduceSub, Nat.reduceLT, Nat.zero_lt_succ, Int.reduceToNat, Int.reduceAdd, Int.reduceSub, Int.reduceMul, Int.reduceNeg, Int.reduceLT, Int.reduceLE, Int.reduceEq, Int.reduceBEq, Int.reduceBNe, Nat.reduceBEq, List.reduceReplicate, con30_f, con63_f, con30_c, con63_c, slK_sl, szV_def, hS, t1, e1]; first | (with_reducible refine A.h ?_) | (with_reducible refine B.h ?_) | refine And.intro (fun hc => A.h ?_) (fun hc => B.h ?_))
          | simp only [thenQ_n, thenQ_r, thenQ_e, blockQ_n, blockQ_r, blockQ_e, scopeQ_n, scopeQ_r, scopeQ_e, Nat.reduceEqDiff, reduceIte]
          | (with_reducible refine And.intro ?_ ?_)
          | with_reducible intro vr)
        all_goals try (intros; (try simp only [Bool.and_eq_true, Bool.or_eq_true, Bool.not_eq_true', decide_eq_true_eq, decide_eq_false_iff_not, beq_iff_eq, bne_iff_ne, ne_eq, inI64, List.length_append] at *) <;> omega)
        refine end_ret rfl ?_
        simp only [fin, go_sem, Int.cast_ofNat_Int, Nat.reduceEqDiff, reduceIte, Nat.reduceAdd, Nat.reduceMul, Nat.reduceLeDiff, Nat.reduceSub, Nat.reduceLT, Nat.zero_lt_succ, Int.reduceToNat, Int.reduceAdd, Int.reduceSub, Int.reduceMul, Int.reduceNeg, Int.reduceLT, Int.reduceLE, Int.reduceEq, Int.reduceBEq, Int.reduceBNe, Nat.reduceBEq, List.reduceReplicate]
        exact nilAe_le
    · have t2 : eqS e ⟨#[98, 111, 111, 108]⟩ = true := by unfold tyOk at t; rw [Bool.or_eq_true] at t; exact t.resolve_left t1
      have t1' : eqS e ⟨#[105, 110, 116]⟩ = false := by simpa using t1
      by_cases e0 : er = 0
      · subst e0
        rw [if_neg (by simp)]
        have hr : n.toNat ≤ 1000000 := by omega
        refine pc_of E13_ok mixed (fun _ => [0, 1, 4, 5, 6, 7, 13, 21]) Try.func37 rfl (by kernel_rfl) (Nat.le_of_ble_eq_true rfl) ?_
        simp only [initF_cons, initF_nil, Nat.reduceAdd]
        refine t_name fun KF => ?_
        unfold E13
        repeat' (first
          | with_reducible refine t_seq fun K => ?_
          | with_reducible refine t_block ?_
          | with_reducible refine t_scope ?_
          | with_reducible refine t_label ?_
          | with_reducible refine t_skip ?_
          | with_reducible refine t_exit ?_
          | with_reducible refine t_ret ?_
          | with_reducible refine t_k ?_
          | (with_reducible refine t_gF ?_)
          | ((first | with_reducible refine t_kE ?_ | with_reducible refine t_kD ?_ | with_reducible refine t_gS ?_ | with_reducible refine t_kL ?_ | (with_reducible refine t_kLE ?_ ?_; rotate_left) | with_reducible refine t_region fun K => ?_ | with_reducible refine t_draw (by kernel_rfl) fun K => ?_); simp only [go_sem, Int.cast_ofNat_Int, Nat.reduceEqDiff, reduceIte, Nat.reduceAdd, Nat.reduceMul, Nat.reduceLeDiff, Nat.reduceSub, Nat.reduceLT, Nat.zero_lt_succ, Int.reduceToNat, Int.reduceAdd, Int.reduceSub, Int.reduceMul, Int.reduceNeg, Int.reduceLT, Int.reduceLE, Int.reduceEq, Int.reduceBEq, Int.reduceBNe, Nat.reduceBEq, List.reduceReplicate, con30_f, con63_f, con30_c, con63_c, slK_sl, szV_def, hS, t1', t2, rep_ints, aeV_def, arrV_def, List.length_replicate])
          | (with_reducible exact kp_nil)
          | (with_reducible exact Kp.refl _)
          | (with_reducible exact kp_to)
          | (with_reducible refine kp_cons ?_)
          | (with_reducible refine kp_arr ?_)
          | (with_reducible refine kp_app ?_)
          | ((with_reducible refine kp_skip ?_ ?_); rfl)
          | ((with_reducible refine t_cond fun A B => ?_); simp only [go_sem, Int.cast_ofNat_Int, Nat.reduceEqDiff, reduceIte, Nat.reduceAdd, Nat.reduceMul, Nat.reduceLeDiff, Nat.reduceSub, Nat.reduceLT, Nat.zero_lt_succ, Int.reduceToNat, Int.reduceAdd, Int.reduceSub, Int.reduceMul, Int.reduceNeg, Int.reduceLT, Int.reduceLE, Int.reduceEq, Int.reduceBEq, Int.reduceBNe, Nat.reduceBEq, List.reduceReplicate, con30_f, con63_f, con30_c, con63_c, slK_sl, szV_def, hS, t1', t2, rep_ints, aeV_def, arrV_def, List.length_replicate]; first | (with_reducible refine A.h ?_) | (with_reducible refine B.h ?_) | refine And.intro (fun hc => A.h ?_) (fun hc => B.h ?_))
          | simp only [thenQ_n, thenQ_r, thenQ_e, blockQ_n, blockQ_r, blockQ_e, scopeQ_n, scopeQ_r, scopeQ_e, Nat.reduceEqDiff, reduceIte]
          | (with_reducible refine And.intro ?_ ?_)
          | with_reducible intro vr)
        all_goals try (intros; (try simp only [Bool.and_eq_true, Bool.or_eq_true, Bool.not_eq_true', decide_eq_true_eq, decide_eq_false_iff_not, beq_iff_eq, bne_iff_ne, ne_eq, inI64, List.length_append] at *) <;> omega)
        refine end_ret rfl ?_
        simp only [fin, go_sem, Int.cast_ofNat_Int, Nat.reduceEqDiff, reduceIte, Nat.reduceAdd, Nat.reduceMul, Nat.reduceLeDiff, Nat.reduceSub, Nat.reduceLT, Nat.zero_lt_succ, Int.reduceToNat, Int.reduceAdd, Int.reduceSub, Int.reduceMul, Int.reduceNeg, Int.reduceLT, Int.reduceLE, Int.reduceEq, Int.reduceBEq, Int.reduceBNe, Nat.reduceBEq, List.reduceReplicate]
        exact LeA.refl _
      · have e1 : (er != 0) = true := by rw [bne_iff_ne]; exact e0
        rw [if_pos (by simpa using e0)]
        refine pc_of E13_ok mixed (fun _ => [0, 1, 4, 5, 6, 7, 13, 21]) Try.func37 rfl (by kernel_rfl) (Nat.le_of_ble_eq_true rfl) ?_
        simp only [initF_cons, initF_nil, Nat.reduceAdd]
        refine t_name fun KF => ?_
        unfold E13
        repeat' (first
          | with_reducible refine t_seq fun K => ?_
          | with_reducible refine t_block ?_
          | with_reducible refine t_scope ?_
          | with_reducible refine t_label ?_
          | with_reducible refine t_skip ?_
          | with_reducible refine t_exit ?_
          | with_reducible refine t_ret ?_
          | with_reducible refine t_k ?_
          | (with_reducible refine t_gF ?_)
          | ((first | with_reducible refine t_kE ?_ | with_reducible refine t_kD ?_ | with_reducible refine t_gS ?_ | with_reducible refine t_kL ?_ | (with_reducible refine t_kLE ?_ ?_; rotate_left) | with_reducible refine t_region fun K => ?_ | with_reducible refine t_draw (by kernel_rfl) fun K => ?_); simp only [go_sem, Int.cast_ofNat_Int, Nat.reduceEqDiff, reduceIte, Nat.reduceAdd, Nat.reduceMul, Nat.reduceLeDiff, Nat.reduceSub, Nat.reduceLT, Nat.zero_lt_succ, Int.reduceToNat, Int.reduceAdd, Int.reduceSub, Int.reduceMul, Int.reduceNeg, Int.reduceLT, Int.reduceLE, Int.reduceEq, Int.reduceBEq, Int.reduceBNe, Nat.reduceBEq, List.reduceReplicate, con30_f, con63_f, con30_c, con63_c, slK_sl, szV_def, hS, t1', t2, e1])
          | (with_reducible exact kp_nil)
          | (with_reducible exact Kp.refl _)
          | (with_reducible exact kp_to)
          | (with_reducible refine kp_cons ?_)
          | (with_reducible refine kp_arr ?_)
          | (with_reducible refine kp_app ?_)
          | ((with_reducible refine kp_skip ?_ ?_); rfl)
          | ((with_reducible refine t_cond fun A B => ?_); simp only [go_sem, Int.cast_ofNat_Int, Nat.reduceEqDiff, reduceIte, Nat.reduceAdd, Nat.reduceMul, Nat.reduceLeDiff, Nat.reduceSub, Nat.reduceLT, Nat.zero_lt_succ, Int.reduceToNat, Int.reduceAdd, Int.reduceSub, Int.reduceMul, Int.reduceNeg, Int.reduceLT, Int.reduceLE, Int.reduceEq, Int.reduceBEq, Int.reduceBNe, Nat.reduceBEq, List.reduceReplicate, con30_f, con63_f, con30_c, con63_c, slK_sl, szV_def, hS, t1', t2, e1]; first | (with_reducible refine A.h ?_) | (with_reducible refine B.h ?_) | refine And.intro (fun hc => A.h ?_) (fun hc => B.h ?_))
          | simp only [thenQ_n, thenQ_r, thenQ_e, blockQ_n, blockQ_r, blockQ_e, scopeQ_n, scopeQ_r, scopeQ_e, Nat.reduceEqDiff, reduceIte]
          | (with_reducible refine And.intro ?_ ?_)
          | with_reducible intro vr)
        all_goals try (intros; (try simp only [Bool.and_eq_true, Bool.or_eq_true, Bool.not_eq_true', decide_eq_true_eq, decide_eq_false_iff_not, beq_iff_eq, bne_iff_ne, ne_eq, inI64, List.length_append] at *) <;> omega)
        refine end_ret rfl ?_
        simp only [fin, go_sem, Int.cast_ofNat_Int, Nat.reduceEqDiff, reduceIte, Nat.reduceAdd, Nat.reduceMul, Nat.reduceLeDiff, Nat.reduceSub, Nat.reduceLT, Nat.zero_lt_succ, Int.reduceToNat, Int.reduceAdd, Int.reduceSub, Int.reduceMul, Int.reduceNeg, Int.reduceLT, Int.reduceLE, Int.reduceEq, Int.reduceBEq, Int.reduceBNe, Nat.reduceBEq, List.reduceReplicate]
        exact nilAe_le
  · have t' : tyOk e = false := by simpa using t
    have t1 : eqS e ⟨#[105, 110, 116]⟩ = false := (Bool.or_eq_false_iff.1 t').1
    have t2 : eqS e ⟨#[98, 111, 111, 108]⟩ = false := (Bool.or_eq_false_iff.1 t').2
    rw [if_pos t']
    refine pc_of E13_ok mixed (fun _ => [0, 1, 4, 5, 6, 7, 13, 21]) Try.func37 rfl (by kernel_rfl) (Nat.le_of_ble_eq_true rfl) ?_
    simp only [initF_cons, initF_nil, Nat.reduceAdd]
    refine t_name fun KF => ?_
    unfold E13
    repeat' (first
      | with_reducible refine t_seq fun K => ?_
      | with_reducible refine t_block ?_
      | with_reducible refine t_scope ?_
      | with_reducible refine t_label ?_
      | with_reducible refine t_skip ?_
      | with_reducible refine t_exit ?_
      | with_reducible refine t_ret ?_
      | with_reducible refine t_k ?_
      | (with_reducible refine t_gF ?_)
      | ((first | with_reducible refine t_kE ?_ | with_reducible refine t_kD ?_ | with_reducible refine t_gS ?_ | with_reducible refine t_kL ?_ | (with_reducible refine t_kLE ?_ ?_; rotate_left) | with_reducible refine t_region fun K => ?_ | with_reducible refine t_draw (by kernel_rfl) fun K => ?_); simp only [go_sem, Int.cast_ofNat_Int, Nat.reduceEqDiff, reduceIte, Nat.reduceAdd, Nat.reduceMul, Nat.reduceLeDiff, Nat.reduceSub, Nat.reduceLT, Nat.zero_lt_succ, Int.reduceToNat, Int.reduceAdd, Int.reduceSub, Int.reduceMul, Int.reduceNeg, Int.reduceLT, Int.reduceLE, Int.reduceEq, Int.reduceBEq, Int.reduceBNe, Nat.reduceBEq, List.reduceReplicate, con30_f, con63_f, t1, t2])
      | (with_reducible exact kp_nil)
      | (with_reducible exact Kp.refl _)
      | (with_reducible exact kp_to)
      | (with_reducible refine kp_cons ?_)
      | (with_reducible refine kp_arr ?_)
      | (with_reducible refine kp_app ?_)
      | ((with_reducible refine kp_skip ?_ ?_); rfl)
      | ((with_reducible refine t_cond fun A B => ?_); simp only [go_sem, Int.cast_ofNat_Int, Nat.reduceEqDiff, reduceIte, Nat.reduceAdd, Nat.reduceMul, Nat.reduceLeDiff, Nat.reduceSub, Nat.reduceLT, Nat.zero_lt_succ, Int.reduceToNat, Int.reduceAdd, Int.reduceSub, Int.reduceMul, Int.reduceNeg, Int.reduceLT, Int.reduceLE, Int.reduceEq, Int.reduceBEq, Int.reduceBNe, Nat.reduceBEq, List.reduceReplicate, con30_f, con63_f, t1, t2]; first | (with_reducible refine A.h ?_) | (with_reducible refine B.h ?_) | refine And.intro (fun hc => A.h ?_) (fun hc => B.h ?_))
      | simp only [thenQ_n, thenQ_r, thenQ_e, blockQ_n, blockQ_r, blockQ_e, scopeQ_n, scopeQ_r, scopeQ_e, Nat.reduceEqDiff, reduceIte]
      | (with_reducible refine And.intro ?_ ?_)
      | with_reducible intro vr)
    all_goals try (intros; (try simp only [Bool.and_eq_true, Bool.or_eq_true, Bool.not_eq_true', decide_eq_true_eq, decide_eq_false_iff_not, beq_iff_eq, bne_iff_ne, ne_eq, inI64, List.length_append] at *) <;> omega)
    refine end_ret rfl ?_
    simp only [fin, go_sem, Int.cast_ofNat_Int, Nat.reduceEqDiff, reduceIte, Nat.reduceAdd, Nat.reduceMul, Nat.reduceLeDiff, Nat.reduceSub, Nat.reduceLT, Nat.zero_lt_succ, Int.reduceToNat, Int.reduceAdd, Int.reduceSub, Int.reduceMul, Int.reduceNeg, Int.reduceLT, Int.reduceLE, Int.reduceEq, Int.reduceBEq, Int.reduceBNe, Nat.reduceBEq, List.reduceReplicate]
    exact nilAe_le
noncomputable def con37 : PCon Try.prog where
  f := 37
  c := fun
    | [.lit (.string e), xd] => match slK .i64 xd with | some d => some (d.length ≤ 1000000, aeV (zerosS e d)) | _ => none
    | _ => none
  ok := by
    intro args p r hc hp
    split at hc
    · split at hc
      · rename_i hd
        cases hc
        exact PC.weak (zeros_pc hp) ⟨LeA.refl _, slK_le hd, trivial⟩
      · cases hc
    · cases hc
  fk := fk37
theorem con37_f : con37.f = 37 := rfl
theorem con37_c {e : ByteArray} {xd : AV} : con37.c [.lit (.string e), xd] = match slK .i64 xd with | some d => some (d.length ≤ 1000000, aeV (zerosS e d)) | _ => none := rfl
noncomputable def E14 : Env := envOf (P := Try.prog) zer (fun _ => false) (fun _ => false) [con37] []
theorem E14_ok : EnvOk Try.prog E14 := envOk zer_ok
set_option maxRecDepth 20000 in
theorem zeros20_pc {d : List Int} (hd : d.length ≤ 1000000) : PC Try.prog 29 [.sl false 1 (ints .i64 d)] (arrV (zerosS sInt d).1) := by
  unfold sInt
  refine pc_of E14_ok mixed (fun _ => [0, 2, 3]) Try.func29 rfl (by kernel_rfl) (Nat.le_of_ble_eq_true rfl) ?_
  simp only [initF_cons, initF_nil, Nat.reduceAdd]
  refine t_name fun KF => ?_
  unfold E14
  repeat' (first
    | with_reducible refine t_seq fun K => ?_
    | with_reducible refine t_block ?_
    | with_reducible refine t_scope ?_
    | with_reducible refine t_label ?_
    | with_reducible refine t_skip ?_
    | with_reducible refine t_exit ?_
    | with_reducible refine t_ret ?_
    | with_reducible refine t_k ?_
    | (with_reducible refine t_gF ?_)
    | ((first | with_reducible refine t_kE ?_ | with_reducible refine t_kD ?_ | with_reducible refine t_gS ?_ | with_reducible refine t_kL ?_ | (with_reducible refine t_kLE ?_ ?_; rotate_left) | with_reducible refine t_region fun K => ?_ | with_reducible refine t_draw (by kernel_rfl) fun K => ?_); simp only [go_sem, Int.cast_ofNat_Int, Nat.reduceEqDiff, reduceIte, Nat.reduceAdd, Nat.reduceMul, Nat.reduceLeDiff, Nat.reduceSub, Nat.reduceLT, Nat.zero_lt_succ, Int.reduceToNat, Int.reduceAdd, Int.reduceSub, Int.reduceMul, Int.reduceNeg, Int.reduceLT, Int.reduceLE, Int.reduceEq, Int.reduceBEq, Int.reduceBNe, Nat.reduceBEq, List.reduceReplicate, con37_f, con37_c, slK_sl, aeV_def, arrV_def])
    | (with_reducible exact kp_nil)
    | (with_reducible exact Kp.refl _)
    | (with_reducible exact kp_to)
    | (with_reducible refine kp_cons ?_)
    | (with_reducible refine kp_arr ?_)
    | (with_reducible refine kp_app ?_)
    | ((with_reducible refine kp_skip ?_ ?_); rfl)
    | ((with_reducible refine t_cond fun A B => ?_); simp only [go_sem, Int.cast_ofNat_Int, Nat.reduceEqDiff, reduceIte, Nat.reduceAdd, Nat.reduceMul, Nat.reduceLeDiff, Nat.reduceSub, Nat.reduceLT, Nat.zero_lt_succ, Int.reduceToNat, Int.reduceAdd, Int.reduceSub, Int.reduceMul, Int.reduceNeg, Int.reduceLT, Int.reduceLE, Int.reduceEq, Int.reduceBEq, Int.reduceBNe, Nat.reduceBEq, List.reduceReplicate, con37_f, con37_c, slK_sl, aeV_def, arrV_def]; first | (with_reducible refine A.h ?_) | (with_reducible refine B.h ?_) | refine And.intro (fun hc => A.h ?_) (fun hc => B.h ?_))
    | simp only [thenQ_n, thenQ_r, thenQ_e, blockQ_n, blockQ_r, blockQ_e, scopeQ_n, scopeQ_r, scopeQ_e, Nat.reduceEqDiff, reduceIte]
    | (with_reducible refine And.intro ?_ ?_)
    | with_reducible intro vr)
  all_goals try (intros; (try simp only [Bool.and_eq_true, Bool.or_eq_true, Bool.not_eq_true', decide_eq_true_eq, decide_eq_false_iff_not, beq_iff_eq, bne_iff_ne, ne_eq, inI64, List.length_append] at *) <;> omega)
  refine end_ret rfl ?_
  simp only [fin, go_sem, Int.cast_ofNat_Int, Nat.reduceEqDiff, reduceIte, Nat.reduceAdd, Nat.reduceMul, Nat.reduceLeDiff, Nat.reduceSub, Nat.reduceLT, Nat.zero_lt_succ, Int.reduceToNat, Int.reduceAdd, Int.reduceSub, Int.reduceMul, Int.reduceNeg, Int.reduceLT, Int.reduceLE, Int.reduceEq, Int.reduceBEq, Int.reduceBNe, Nat.reduceBEq, List.reduceReplicate]
  exact LeA.refl _
noncomputable def con29 : PCon Try.prog where
  f := 29
  c := fun
    | [xd] => match slK .i64 xd with | some d => some (d.length ≤ 1000000, arrV (zerosS sInt d).1) | _ => none
    | _ => none
  ok := by
    intro args p r hc hp
    split at hc
    · split at hc
      · rename_i hd
        cases hc
        exact PC.weak (zeros20_pc hp) ⟨slK_le hd, trivial⟩
      · cases hc
    · cases hc
  fk := fk29
theorem con29_f : con29.f = 29 := rfl
theorem con29_c {xd : AV} : con29.c [xd] = match slK .i64 xd with | some d => some (d.length ≤ 1000000, arrV (zerosS sInt d).1) | _ => none := rfl
end Go.Proofs.Ytjlcbojpiieafaa
