/- Frames and cells' dimensions; small arrays; zeros. -/
import Derived.Test.YtjlcbojpiieafaaDoorDC
import Derived.Test.YtjlcbojpiieafaaDoorDA
import Derived.Test.YtjlcbojpiieafaaDoorFacts

set_option linter.all false

namespace Go.Proofs.YtjlcbojpiieafaaDoor
open Go Go.Fw

def okA (a : Arr) : Prop := a.d.length ≤ 1000000 ∧ a.x.length ≤ 1000000
def fewA (a : Arr) (n : Int) : Bool := decide ((a.e.size : Int) ≤ 20) && (decide ((a.d.length : Int) ≤ 8) && decide ((a.x.length : Int) ≤ n))
theorem few_pc {a : Arr} {n : Int} : PC Tryd.prog 16 [arrV a, .lit (.int .i64 n)] (.lit (.bool (fewA a n))) := by
  unfold fewA
  by_cases h1 : (a.e.size : Int) ≤ 20
  · have e1 : decide ((a.e.size : Int) ≤ 20) = true := decide_eq_true h1
    by_cases h2 : (a.d.length : Int) ≤ 8
    · have e2 : decide ((a.d.length : Int) ≤ 8) = true := decide_eq_true h2
      rw [e1, e2]
      refine pc_of E0_ok mixed (fun _ => [0, 1, 2, 4]) Tryd.func16 rfl (by kernel_rfl) (Nat.le_of_ble_eq_true rfl) ?_
      simp only [initF_cons, initF_nil, Nat.reduceAdd]
      refine t_name fun KF => ?_
      unfold E0
      repeat' (first
        | with_reducible refine t_seq fun K => ?_
        | with_reducible refine t_block ?_
        | with_reducible refine t_scope ?_
        | with_reducible refine t_label ?_
        | with_reducible refine t_skip ?_
        | with_reducible refine t_exit ?_
        | with_reducible refine t_ret ?_
        | with_reducible refine t_k ?_
        | (with_reducible refine t_gF ?_)
        | ((first | with_reducible refine t_kE ?_ | with_reducible refine t_kD ?_ | with_reducible refine t_gS ?_ | with_reducible refine t_kL ?_ | (with_reducible refine t_kLE ?_ ?_; rotate_left) | with_reducible refine t_region fun K => ?_ | with_reducible refine t_draw (by kernel_rfl) fun K => ?_); simp only [go_sem, Int.cast_ofNat_Int, Nat.reduceEqDiff, reduceIte, Nat.reduceAdd, Nat.reduceMul, Nat.reduceLeDiff, Nat.reduceSub, Nat.reduceLT, Nat.zero_lt_succ, Int.reduceToNat, Int.reduceAdd, Int.reduceSub, Int.reduceMul, Int.reduceNeg, Int.reduceLT, Int.reduceLE, Int.reduceEq, Int.reduceBEq, Int.reduceBNe, Nat.reduceBEq, List.reduceReplicate, arrV_def, e1, e2])
        | (with_reducible exact kp_nil)
        | (with_reducible exact Kp.refl _)
        | (with_reducible exact kp_to)
        | (with_reducible refine kp_cons ?_)
        | (with_reducible refine kp_arr ?_)
        | (with_reducible refine kp_app ?_)
        | ((with_reducible refine kp_skip ?_ ?_); rfl)
        | ((with_reducible refine t_cond fun A B => ?_); simp only [go_sem, Int.cast_ofNat_Int, Nat.reduceEqDiff, reduceIte, Nat.reduceAdd, Nat.reduceMul, Nat.reduceLeDiff, Nat.reduceSub, Nat.reduceLT, Nat.zero_lt_succ, Int.reduceToNat, Int.reduceAdd, Int.reduceSub, Int.reduceMul, Int.reduceNeg, Int.reduceLT, Int.reduceLE, Int.reduceEq, Int.reduceBEq, Int.reduceBNe, Nat.reduceBEq, List.reduceReplicate, arrV_def, e1, e2]; first | (with_reducible refine A.h ?_) | (with_reducible refine B.h ?_) | refine And.intro (fun hc => A.h ?_) (fun hc => B.h ?_))
        | simp only [thenQ_n, thenQ_r, thenQ_e, blockQ_n, blockQ_r, blockQ_e, scopeQ_n, scopeQ_r, scopeQ_e, Nat.reduceEqDiff, reduceIte]
        | (with_reducible refine And.intro ?_ ?_)
        | with_reducible intro vr)
      all_goals try (intros; (try simp only [Bool.and_eq_true, Bool.or_eq_true, Bool.not_eq_true', decide_eq_true_eq, decide_eq_false_iff_not, beq_iff_eq, bne_iff_ne, ne_eq, inI64, List.length_append] at *) <;> omega)
      refine end_ret rfl ?_
      simp only [fin, go_sem, Int.cast_ofNat_Int, Nat.reduceEqDiff, reduceIte, Nat.reduceAdd, Nat.reduceMul, Nat.reduceLeDiff, Nat.reduceSub, Nat.reduceLT, Nat.zero_lt_succ, Int.reduceToNat, Int.reduceAdd, Int.reduceSub, Int.reduceMul, Int.reduceNeg, Int.reduceLT, Int.reduceLE, Int.reduceEq, Int.reduceBEq, Int.reduceBNe, Nat.reduceBEq, List.reduceReplicate]
      exact LeA.refl _
    · have e2 : decide ((a.d.length : Int) ≤ 8) = false := decide_eq_false h2
      rw [e1, e2]
      refine pc_of E0_ok mixed (fun _ => [0, 1, 2, 4]) Tryd.func16 rfl (by kernel_rfl) (Nat.le_of_ble_eq_true rfl) ?_
      simp only [initF_cons, initF_nil, Nat.reduceAdd]
      refine t_name fun KF => ?_
      unfold E0
      repeat' (first
        | with_reducible refine t_seq fun K => ?_
        | with_reducible refine t_block ?_
        | with_reducible refine t_scope ?_
        | with_reducible refine t_label ?_
        | with_reducible refine t_skip ?_
        | with_reducible refine t_exit ?_
        | with_reducible refine t_ret ?_
        | with_reducible refine t_k ?_
        | (with_reducible refine t_gF ?_)
        | ((first | with_reducible refine t_kE ?_ | with_reducible refine t_kD ?_ | with_reducible refine t_gS ?_ | with_reducible refine t_kL ?_ | (with_reducible refine t_kLE ?_ ?_; rotate_left) | with_reducible refine t_region fun K => ?_ | with_reducible refine t_draw (by kernel_rfl) fun K => ?_); simp only [go_sem, Int.cast_ofNat_Int, Nat.reduceEqDiff, reduceIte, Nat.reduceAdd, Nat.reduceMul, Nat.reduceLeDiff, Nat.reduceSub, Nat.reduceLT, Nat.zero_lt_succ, Int.reduceToNat, Int.reduceAdd, Int.reduceSub, Int.reduceMul, Int.reduceNeg, Int.reduceLT, Int.reduceLE, Int.reduceEq, Int.reduceBEq, Int.reduceBNe, Nat.reduceBEq, List.reduceReplicate, arrV_def, e1, e2])
        | (with_reducible exact kp_nil)
        | (with_reducible exact Kp.refl _)
        | (with_reducible exact kp_to)
        | (with_reducible refine kp_cons ?_)
        | (with_reducible refine kp_arr ?_)
        | (with_reducible refine kp_app ?_)
        | ((with_reducible refine kp_skip ?_ ?_); rfl)
        | ((with_reducible refine t_cond fun A B => ?_); simp only [go_sem, Int.cast_ofNat_Int, Nat.reduceEqDiff, reduceIte, Nat.reduceAdd, Nat.reduceMul, Nat.reduceLeDiff, Nat.reduceSub, Nat.reduceLT, Nat.zero_lt_succ, Int.reduceToNat, Int.reduceAdd, Int.reduceSub, Int.reduceMul, Int.reduceNeg, Int.reduceLT, Int.reduceLE, Int.reduceEq, Int.reduceBEq, Int.reduceBNe, Nat.reduceBEq, List.reduceReplicate, arrV_def, e1, e2]; first | (with_reducible refine A.h ?_) | (with_reducible refine B.h ?_) | refine And.intro (fun hc => A.h ?_) (fun hc => B.h ?_))
        | simp only [thenQ_n, thenQ_r, thenQ_e, blockQ_n, blockQ_r, blockQ_e, scopeQ_n, scopeQ_r, scopeQ_e, Nat.reduceEqDiff, reduceIte]
        | (with_reducible refine And.intro ?_ ?_)
        | with_reducible intro vr)
      all_goals try (intros; (try simp only [Bool.and_eq_true, Bool.or_eq_true, Bool.not_eq_true', decide_eq_true_eq, decide_eq_false_iff_not, beq_iff_eq, bne_iff_ne, ne_eq, inI64, List.length_append] at *) <;> omega)
      refine end_ret rfl ?_
      simp only [fin, go_sem, Int.cast_ofNat_Int, Nat.reduceEqDiff, reduceIte, Nat.reduceAdd, Nat.reduceMul, Nat.reduceLeDiff, Nat.reduceSub, Nat.reduceLT, Nat.zero_lt_succ, Int.reduceToNat, Int.reduceAdd, Int.reduceSub, Int.reduceMul, Int.reduceNeg, Int.reduceLT, Int.reduceLE, Int.reduceEq, Int.reduceBEq, Int.reduceBNe, Nat.reduceBEq, List.reduceReplicate]
      exact LeA.refl _
  · have e1 : decide ((a.e.size : Int) ≤ 20) = false := decide_eq_false h1
    rw [e1]
    refine pc_of E0_ok mixed (fun _ => [0, 1, 2, 4]) Tryd.func16 rfl (by kernel_rfl) (Nat.le_of_ble_eq_true rfl) ?_
    simp only [initF_cons, initF_nil, Nat.reduceAdd]
    refine t_name fun KF => ?_
    unfold E0
    repeat' (first
      | with_reducible refine t_seq fun K => ?_
      | with_reducible refine t_block ?_
      | with_reducible refine t_scope ?_
      | with_reducible refine t_label ?_
      | with_reducible refine t_skip ?_
      | with_reducible refine t_exit ?_
      | with_reducible refine t_ret ?_
      | with_reducible refine t_k ?_
      | (with_reducible refine t_gF ?_)
      | ((first | with_reducible refine t_kE ?_ | with_reducible refine t_kD ?_ | with_reducible refine t_gS ?_ | with_reducible refine t_kL ?_ | (with_reducible refine t_kLE ?_ ?_; rotate_left) | with_reducible refine t_region fun K => ?_ | with_reducible refine t_draw (by kernel_rfl) fun K => ?_); simp only [go_sem, Int.cast_ofNat_Int, Nat.reduceEqDiff, reduceIte, Nat.reduceAdd, Nat.reduceMul, Nat.reduceLeDiff, Nat.reduceSub, Nat.reduceLT, Nat.zero_lt_succ, Int.reduceToNat, Int.reduceAdd, Int.reduceSub, Int.reduceMul, Int.reduceNeg, Int.reduceLT, Int.reduceLE, Int.reduceEq, Int.reduceBEq, Int.reduceBNe, Nat.reduceBEq, List.reduceReplicate, arrV_def, e1])
      | (with_reducible exact kp_nil)
      | (with_reducible exact Kp.refl _)
      | (with_reducible exact kp_to)
      | (with_reducible refine kp_cons ?_)
      | (with_reducible refine kp_arr ?_)
      | (with_reducible refine kp_app ?_)
      | ((with_reducible refine kp_skip ?_ ?_); rfl)
      | ((with_reducible refine t_cond fun A B => ?_); simp only [go_sem, Int.cast_ofNat_Int, Nat.reduceEqDiff, reduceIte, Nat.reduceAdd, Nat.reduceMul, Nat.reduceLeDiff, Nat.reduceSub, Nat.reduceLT, Nat.zero_lt_succ, Int.reduceToNat, Int.reduceAdd, Int.reduceSub, Int.reduceMul, Int.reduceNeg, Int.reduceLT, Int.reduceLE, Int.reduceEq, Int.reduceBEq, Int.reduceBNe, Nat.reduceBEq, List.reduceReplicate, arrV_def, e1]; first | (with_reducible refine A.h ?_) | (with_reducible refine B.h ?_) | refine And.intro (fun hc => A.h ?_) (fun hc => B.h ?_))
      | simp only [thenQ_n, thenQ_r, thenQ_e, blockQ_n, blockQ_r, blockQ_e, scopeQ_n, scopeQ_r, scopeQ_e, Nat.reduceEqDiff, reduceIte]
      | (with_reducible refine And.intro ?_ ?_)
      | with_reducible intro vr)
    all_goals try (intros; (try simp only [Bool.and_eq_true, Bool.or_eq_true, Bool.not_eq_true', decide_eq_true_eq, decide_eq_false_iff_not, beq_iff_eq, bne_iff_ne, ne_eq, inI64, List.length_append] at *) <;> omega)
    refine end_ret rfl ?_
    simp only [fin, go_sem, Int.cast_ofNat_Int, Nat.reduceEqDiff, reduceIte, Nat.reduceAdd, Nat.reduceMul, Nat.reduceLeDiff, Nat.reduceSub, Nat.reduceLT, Nat.zero_lt_succ, Int.reduceToNat, Int.reduceAdd, Int.reduceSub, Int.reduceMul, Int.reduceNeg, Int.reduceLT, Int.reduceLE, Int.reduceEq, Int.reduceBEq, Int.reduceBNe, Nat.reduceBEq, List.reduceReplicate]
    exact LeA.refl _
noncomputable def con16 : PCon Tryd.prog where
  f := 16
  c := fun
    | [xa, .lit (.int .i64 n)] => match arrOf xa with | some a => some (True, .lit (.bool (fewA a n))) | _ => none
    | _ => none
  ok := by
    intro args p r hc hp
    split at hc
    · split at hc
      · rename_i ha
        cases hc
        exact PC.weak few_pc ⟨arrOf_le ha, LeA.refl _, trivial⟩
      · cases hc
    · cases hc
  fk := fk16
theorem con16_f : con16.f = 16 := rfl
theorem con16_c {xa : AV} {n : Int} : con16.c [xa, .lit (.int .i64 n)] = match arrOf xa with | some a => some (True, .lit (.bool (fewA a n))) | _ => none := rfl
/-- Zeros, with an error. -/
def zerosS (e : ByteArray) (d : List Int) : Arr × Int := if tyOk e = false then (nilA, 12) else if (sizeS d).2 ≠ 0 then (nilA, (sizeS d).2) else ofS ⟨e, d, List.replicate (sizeS d).1.toNat 0⟩
noncomputable def E13 : Env := envOf (P := Tryd.prog) zer (fun _ => false) (fun _ => false) [con10, con18] []
theorem E13_ok : EnvOk Tryd.prog E13 := envOk zer_ok
theorem rep_ints (m : Nat) : List.replicate m (AV.lit (.int .i64 0)) = ints .i64 (List.replicate m 0) := by simp [ints]
set_option maxRecDepth 20000 in
set_option maxHeartbeats 1000000 in
theorem zeros_pc {e : ByteArray} {d : List Int} (hd : d.length ≤ 1000000) : PC Tryd.prog 20 [.lit (.string e), .sl false 1 (ints .i64 d)] (aeV (zerosS e d)) := by
  have hz := sizeS_bd d
  unfold zerosS
  by_cases t : tyOk e = true
  · rw [if_neg (by rw [t]; decide)]
    generalize hS : sizeS d = s at hz
    obtain ⟨n, er⟩ := s
    simp only at hz
    by_cases t1 : eqS e ⟨#[105, 110, 116]⟩ = true
    · skip
      by_cases e0 : er = 0
      · subst e0
        rw [if_neg (by simp)]
        have hr : n.toNat ≤ 1000000 := by omega
        refine pc_of E13_ok mixed (fun _ => [0, 1, 4, 5, 6, 7, 13, 21]) Tryd.func20 rfl (by kernel_rfl) (Nat.le_of_ble_eq_true rfl) ?_
        simp only [initF_cons, initF_nil, Nat.reduceAdd]
        refine t_name fun KF => ?_
        unfold E13
        repeat' (first
          | with_reducible refine t_seq fun K => ?_
          | with_reducible refine t_block ?_
          | with_reducible refine t_scope ?_
          | with_reducible refine t_label ?_
          | with_reducible refine t_skip ?_
          | with_reducible refine t_exit ?_
          | with_reducible refine t_ret ?_
          | with_reducible refine t_k ?_
          | (with_reducible refine t_gF ?_)
          | ((first | with_reducible refine t_kE ?_ | with_reducible refine t_kD ?_ | with_reducible refine t_gS ?_ | with_reducible refine t_kL ?_ | (with_reducible refine t_kLE ?_ ?_; rotate_left) | with_reducible refine t_region fun K => ?_ | with_reducible refine t_draw (by kernel_rfl) fun K => ?_); simp only [go_sem, Int.cast_ofNat_Int, Nat.reduceEqDiff, reduceIte, Nat.reduceAdd, Nat.reduceMul, Nat.reduceLeDiff, Nat.reduceSub, Nat.reduceLT, Nat.zero_lt_succ, Int.reduceToNat, Int.reduceAdd, Int.reduceSub, Int.reduceMul, Int.reduceNeg, Int.reduceLT, Int.reduceLE, Int.reduceEq, Int.reduceBEq, Int.reduceBNe, Nat.reduceBEq, List.reduceReplicate, con10_f, con18_f, con10_c, con18_c, slK_sl, szV_def, hS, t1, rep_ints, aeV_def, arrV_def, List.length_replicate])
          | (with_reducible exact kp_nil)
          | (with_reducible exact Kp.refl _)
          | (with_reducible exact kp_to)
          | (with_reducible refine kp_cons ?_)
          | (with_reducible refine kp_arr ?_)
          | (with_reducible refine kp_app ?_)
          | ((with_reducible refine kp_skip ?_ ?_); rfl)
          | ((with_reducible refine t_cond fun A B => ?_); simp only [go_sem, Int.cast_ofNat_Int, Nat.reduceEqDiff, reduceIte, Nat.reduceAdd, Nat.reduceMul, Nat.reduceLeDiff, Nat.reduceSub, Nat.reduceLT, Nat.zero_lt_succ, Int.reduceToNat, Int.reduceAdd, Int.reduceSub, Int.reduceMul, Int.reduceNeg, Int.reduceLT, Int.reduceLE, Int.reduceEq, Int.reduceBEq, Int.reduceBNe, Nat.reduceBEq, List.reduceReplicate, con10_f, con18_f, con10_c, con18_c, slK_sl, szV_def, hS, t1, rep_ints, aeV_def, arrV_def, List.length_replicate]; first | (with_reducible refine A.h ?_) | (with_reducible refine B.h ?_) | refine And.intro (fun hc => A.h ?_) (fun hc => B.h ?_))
          | simp only [thenQ_n, thenQ_r, thenQ_e, blockQ_n, blockQ_r, blockQ_e, scopeQ_n, scopeQ_r, scopeQ_e, Nat.reduceEqDiff, reduceIte]
          | (with_reducible refine And.intro ?_ ?_)
          | with_reducible intro vr)
        all_goals try (intros; (try simp only [Bool.and_eq_true, Bool.or_eq_true, Bool.not_eq_true', decide_eq_true_eq, decide_eq_false_iff_not, beq_iff_eq, bne_iff_ne, ne_eq, inI64, List.length_append] at *) <;> omega)
        refine end_ret rfl ?_
        simp only [fin, go_sem, Int.cast_ofNat_Int, Nat.reduceEqDiff, reduceIte, Nat.reduceAdd, Nat.reduceMul, Nat.reduceLeDiff, Nat.reduceSub, Nat.reduceLT, Nat.zero_lt_succ, Int.reduceToNat, Int.reduceAdd, Int.reduceSub, Int.reduceMul, Int.reduceNeg, Int.reduceLT, Int.reduceLE, Int.reduceEq, Int.reduceBEq, Int.reduceBNe, Nat.reduceBEq, List.reduceReplicate]
        exact LeA.refl _
      · have e1 : (er != 0) = true := by rw [bne_iff_ne]; exact e0
        rw [if_pos (by simpa using e0)]
        refine pc_of E13_ok mixed (fun _ => [0, 1, 4, 5, 6, 7, 13, 21]) Tryd.func20 rfl (by kernel_rfl) (Nat.le_of_ble_eq_true rfl) ?_
        simp only [initF_cons, initF_nil, Nat.reduceAdd]
        refine t_name fun KF => ?_
        unfold E13
        repeat' (first
          | with_reducible refine t_seq fun K => ?_
          | with_reducible refine t_block ?_
          | with_reducible refine t_scope ?_
          | with_reducible refine t_label ?_
          | with_reducible refine t_skip ?_
          | with_reducible refine t_exit ?_
          | with_reducible refine t_ret ?_
          | with_reducible refine t_k ?_
          | (with_reducible refine t_gF ?_)
          | ((first | with_reducible refine t_kE ?_ | with_reducible refine t_kD ?_ | with_reducible refine t_gS ?_ | with_reducible refine t_kL ?_ | (with_reducible refine t_kLE ?_ ?_; rotate_left) | with_reducible refine t_region fun K => ?_ | with_reducible refine t_draw (by kernel_rfl) fun K => ?_); simp only [go_sem, Int.cast_ofNat_Int, Nat.reduceEqDiff, reduceIte, Nat.reduceAdd, Nat.reduceMul, Nat.reduceLeDiff, Nat.reduceSub, Nat.reduceLT, Nat.zero_lt_succ, Int.reduceToNat, Int.reduceAdd, Int.reduceSub, Int.reduceMul, Int.reduceNeg, Int.reduceLT, Int.reduceLE, Int.reduceEq, Int.reduceBEq, Int.reduceBNe, Nat.reduceBEq, List.reduceReplicate, con10_f, con18_f, con10_c, con18_c, slK_sl, szV_def, hS, t1, e1])
          | (with_reducible exact kp_nil)
          | (with_reducible exact Kp.refl _)
          | (with_reducible exact kp_to)
          | (with_reducible refine kp_cons ?_)
          | (with_reducible refine kp_arr ?_)
          | (with_reducible refine kp_app ?_)
          | ((with_reducible refine kp_skip ?_ ?_); rfl)
          | ((with_reducible refine t_cond fun A B => ?_); simp only [go_sem, Int.cast_ofNat_Int, Nat.reduceEqDiff, reduceIte, Nat.reduceAdd, Nat.reduceMul, Nat.reduceLeDiff, Nat.reduceSub, Nat.reduceLT, Nat.zero_lt_succ, Int.reduceToNat, Int.reduceAdd, Int.reduceSub, Int.reduceMul, Int.reduceNeg, Int.reduceLT, Int.reduceLE, Int.reduceEq, Int.reduceBEq, Int.reduceBNe, Nat.reduceBEq, List.reduceReplicate, con10_f, con18_f, con10_c, con18_c, slK_sl, szV_def, hS, t1, e1]; first | (with_reducible refine A.h ?_) | (with_reducible refine B.h ?_) | refine And.intro (fun hc => A.h ?_) (fun hc => B.h ?_))
          | simp only [thenQ_n, thenQ_r, thenQ_e, blockQ_n, blockQ_r, blockQ_e, scopeQ_n, scopeQ_r, scopeQ_e, Nat.reduceEqDiff, reduceIte]
          | (with_reducible refine And.intro ?_ ?_)
          | with_reducible intro vr)
        all_goals try (intros; (try simp only [Bool.and_eq_true, Bool.or_eq_true, Bool.not_eq_true', decide_eq_true_eq, decide_eq_false_iff_not, beq_iff_eq, bne_iff_ne, ne_eq, inI64, List.length_append] at *) <;> omega)
        refine end_ret rfl ?_
        simp only [fin, go_sem, Int.cast_ofNat_Int, Nat.reduceEqDiff, reduceIte, Nat.reduceAdd, Nat.reduceMul, Nat.reduceLeDiff, Nat.reduceSub, Nat.reduceLT, Nat.zero_lt_succ, Int.reduceToNat, Int.reduceAdd, Int.reduceSub, Int.reduceMul, Int.reduceNeg, Int.reduceLT, Int.reduceLE, Int.reduceEq, Int.reduceBEq, Int.reduceBNe, Nat.reduceBEq, List.reduceReplicate]
        exact nilAe_le
    · have t2 : eqS e ⟨#[98, 111, 111, 108]⟩ = true := by unfold tyOk at t; rw [Bool.or_eq_true] at t; exact t.resolve_left t1
      have t1' : eqS e ⟨#[105, 110, 116]⟩ = false := by simpa using t1
      by_cases e0 : er = 0
      · subst e0
        rw [if_neg (by simp)]
        have hr : n.toNat ≤ 1000000 := by omega
        refine pc_of E13_ok mixed (fun _ => [0, 1, 4, 5, 6, 7, 13, 21]) Tryd.func20 rfl (by kernel_rfl) (Nat.le_of_ble_eq_true rfl) ?_
        simp only [initF_cons, initF_nil, Nat.reduceAdd]
        refine t_name fun KF => ?_
        unfold E13
        repeat' (first
          | with_reducible refine t_seq fun K => ?_
          | with_reducible refine t_block ?_
          | with_reducible refine t_scope ?_
          | with_reducible refine t_label ?_
          | with_reducible refine t_skip ?_
          | with_reducible refine t_exit ?_
          | with_reducible refine t_ret ?_
          | with_reducible refine t_k ?_
          | (with_reducible refine t_gF ?_)
          | ((first | with_reducible refine t_kE ?_ | with_reducible refine t_kD ?_ | with_reducible refine t_gS ?_ | with_reducible refine t_kL ?_ | (with_reducible refine t_kLE ?_ ?_; rotate_left) | with_reducible refine t_region fun K => ?_ | with_reducible refine t_draw (by kernel_rfl) fun K => ?_); simp only [go_sem, Int.cast_ofNat_Int, Nat.reduceEqDiff, reduceIte, Nat.reduceAdd, Nat.reduceMul, Nat.reduceLeDiff, Nat.reduceSub, Nat.reduceLT, Nat.zero_lt_succ, Int.reduceToNat, Int.reduceAdd, Int.reduceSub, Int.reduceMul, Int.reduceNeg, Int.reduceLT, Int.reduceLE, Int.reduceEq, Int.reduceBEq, Int.reduceBNe, Nat.reduceBEq, List.reduceReplicate, con10_f, con18_f, con10_c, con18_c, slK_sl, szV_def, hS, t1', t2, rep_ints, aeV_def, arrV_def, List.length_replicate])
          | (with_reducible exact kp_nil)
          | (with_reducible exact Kp.refl _)
          | (with_reducible exact kp_to)
          | (with_reducible refine kp_cons ?_)
          | (with_reducible refine kp_arr ?_)
          | (with_reducible refine kp_app ?_)
          | ((with_reducible refine kp_skip ?_ ?_); rfl)
          | ((with_reducible refine t_cond fun A B => ?_); simp only [go_sem, Int.cast_ofNat_Int, Nat.reduceEqDiff, reduceIte, Nat.reduceAdd, Nat.reduceMul, Nat.reduceLeDiff, Nat.reduceSub, Nat.reduceLT, Nat.zero_lt_succ, Int.reduceToNat, Int.reduceAdd, Int.reduceSub, Int.reduceMul, Int.reduceNeg, Int.reduceLT, Int.reduceLE, Int.reduceEq, Int.reduceBEq, Int.reduceBNe, Nat.reduceBEq, List.reduceReplicate, con10_f, con18_f, con10_c, con18_c, slK_sl, szV_def, hS, t1', t2, rep_ints, aeV_def, arrV_def, List.length_replicate]; first | (with_reducible refine A.h ?_) | (with_reducible refine B.h ?_) | refine And.intro (fun hc => A.h ?_) (fun hc => B.h ?_))
          | simp only [thenQ_n, thenQ_r, thenQ_e, blockQ_n, blockQ_r, blockQ_e, scopeQ_n, scopeQ_r, scopeQ_e, Nat.reduceEqDiff, reduceIte]
          | (with_reducible refine And.intro ?_ ?_)
          | with_reducible intro vr)
        all_goals try (intros; (try simp only [Bool.and_eq_true, Bool.or_eq_true, Bool.not_eq_true', decide_eq_true_eq, decide_eq_false_iff_not, beq_iff_eq, bne_iff_ne, ne_eq, inI64, List.length_append] at *) <;> omega)
        refine end_ret rfl ?_
        simp only [fin, go_sem, Int.cast_ofNat_Int, Nat.reduceEqDiff, reduceIte, Nat.reduceAdd, Nat.reduceMul, Nat.reduceLeDiff, Nat.reduceSub, Nat.reduceLT, Nat.zero_lt_succ, Int.reduceToNat, Int.reduceAdd, Int.reduceSub, Int.reduceMul, Int.reduceNeg, Int.reduceLT, Int.reduceLE, Int.reduceEq, Int.reduceBEq, Int.reduceBNe, Nat.reduceBEq, List.reduceReplicate]
        exact LeA.refl _
      · have e1 : (er != 0) = true := by rw [bne_iff_ne]; exact e0
        rw [if_pos (by simpa using e0)]
        refine pc_of E13_ok mixed (fun _ => [0, 1, 4, 5, 6, 7, 13, 21]) Tryd.func20 rfl (by kernel_rfl) (Nat.le_of_ble_eq_true rfl) ?_
        simp only [initF_cons, initF_nil, Nat.reduceAdd]
        refine t_name fun KF => ?_
        unfold E13
        repeat' (first
          | with_reducible refine t_seq fun K => ?_
          | with_reducible refine t_block ?_
          | with_reducible refine t_scope ?_
          | with_reducible refine t_label ?_
          | with_reducible refine t_skip ?_
          | with_reducible refine t_exit ?_
          | with_reducible refine t_ret ?_
          | with_reducible refine t_k ?_
          | (with_reducible refine t_gF ?_)
          | ((first | with_reducible refine t_kE ?_ | with_reducible refine t_kD ?_ | with_reducible refine t_gS ?_ | with_reducible refine t_kL ?_ | (with_reducible refine t_kLE ?_ ?_; rotate_left) | with_reducible refine t_region fun K => ?_ | with_reducible refine t_draw (by kernel_rfl) fun K => ?_); simp only [go_sem, Int.cast_ofNat_Int, Nat.reduceEqDiff, reduceIte, Nat.reduceAdd, Nat.reduceMul, Nat.reduceLeDiff, Nat.reduceSub, Nat.reduceLT, Nat.zero_lt_succ, Int.reduceToNat, Int.reduceAdd, Int.reduceSub, Int.reduceMul, Int.reduceNeg, Int.reduceLT, Int.reduceLE, Int.reduceEq, Int.reduceBEq, Int.reduceBNe, Nat.reduceBEq, List.reduceReplicate, con10_f, con18_f, con10_c, con18_c, slK_sl, szV_def, hS, t1', t2, e1])
          | (with_reducible exact kp_nil)
          | (with_reducible exact Kp.refl _)
          | (with_reducible exact kp_to)
          | (with_reducible refine kp_cons ?_)
          | (with_reducible refine kp_arr ?_)
          | (with_reducible refine kp_app ?_)
          | ((with_reducible refine kp_skip ?_ ?_); rfl)
          | ((with_reducible refine t_cond fun A B => ?_); simp only [go_sem, Int.cast_ofNat_Int, Nat.reduceEqDiff, reduceIte, Nat.reduceAdd, Nat.reduceMul, Nat.reduceLeDiff, Nat.reduceSub, Nat.reduceLT, Nat.zero_lt_succ, Int.reduceToNat, Int.reduceAdd, Int.reduceSub, Int.reduceMul, Int.reduceNeg, Int.reduceLT, Int.reduceLE, Int.reduceEq, Int.reduceBEq, Int.reduceBNe, Nat.reduceBEq, List.reduceReplicate, con10_f, con18_f, con10_c, con18_c, slK_sl, szV_def, hS, t1', t2, e1]; first | (with_reducible refine A.h ?_) | (with_reducible refine B.h ?_) | refine And.intro (fun hc => A.h ?_) (fun hc => B.h ?_))
          | simp only [thenQ_n, thenQ_r, thenQ_e, blockQ_n, blockQ_r, blockQ_e, scopeQ_n, scopeQ_r, scopeQ_e, Nat.reduceEqDiff, reduceIte]
          | (with_reducible refine And.intro ?_ ?_)
          | with_reducible intro vr)
        all_goals try (intros; (try simp only [Bool.and_eq_true, Bool.or_eq_true, Bool.not_eq_true', decide_eq_true_eq, decide_eq_false_iff_not, beq_iff_eq, bne_iff_ne, ne_eq, inI64, List.length_append] at *) <;> omega)
        refine end_ret rfl ?_
        simp only [fin, go_sem, Int.cast_ofNat_Int, Nat.reduceEqDiff, reduceIte, Nat.reduceAdd, Nat.reduceMul, Nat.reduceLeDiff, Nat.reduceSub, Nat.reduceLT, Nat.zero_lt_succ, Int.reduceToNat, Int.reduceAdd, Int.reduceSub, Int.reduceMul, Int.reduceNeg, Int.reduceLT, Int.reduceLE, Int.reduceEq, Int.reduceBEq, Int.reduceBNe, Nat.reduceBEq, List.reduceReplicate]
        exact nilAe_le
  · have t' : tyOk e = false := by simpa using t
    have t1 : eqS e ⟨#[105, 110, 116]⟩ = false := (Bool.or_eq_false_iff.1 t').1
    have t2 : eqS e ⟨#[98, 111, 111, 108]⟩ = false := (Bool.or_eq_false_iff.1 t').2
    rw [if_pos t']
    refine pc_of E13_ok mixed (fun _ => [0, 1, 4, 5, 6, 7, 13, 21]) Tryd.func20 rfl (by kernel_rfl) (Nat.le_of_ble_eq_true rfl) ?_
    simp only [initF_cons, initF_nil, Nat.reduceAdd]
    refine t_name fun KF => ?_
    unfold E13
    repeat' (first
      | with_reducible refine t_seq fun K => ?_
      | with_reducible refine t_block ?_
      | with_reducible refine t_scope ?_
      | with_reducible refine t_label ?_
      | with_reducible refine t_skip ?_
      | with_reducible refine t_exit ?_
      | with_reducible refine t_ret ?_
      | with_reducible refine t_k ?_
      | (with_reducible refine t_gF ?_)
      | ((first | with_reducible refine t_kE ?_ | with_reducible refine t_kD ?_ | with_reducible refine t_gS ?_ | with_reducible refine t_kL ?_ | (with_reducible refine t_kLE ?_ ?_; rotate_left) | with_reducible refine t_region fun K => ?_ | with_reducible refine t_draw (by kernel_rfl) fun K => ?_); simp only [go_sem, Int.cast_ofNat_Int, Nat.reduceEqDiff, reduceIte, Nat.reduceAdd, Nat.reduceMul, Nat.reduceLeDiff, Nat.reduceSub, Nat.reduceLT, Nat.zero_lt_succ, Int.reduceToNat, Int.reduceAdd, Int.reduceSub, Int.reduceMul, Int.reduceNeg, Int.reduceLT, Int.reduceLE, Int.reduceEq, Int.reduceBEq, Int.reduceBNe, Nat.reduceBEq, List.reduceReplicate, con10_f, con18_f, t1, t2])
      | (with_reducible exact kp_nil)
      | (with_reducible exact Kp.refl _)
      | (with_reducible exact kp_to)
      | (with_reducible refine kp_cons ?_)
      | (with_reducible refine kp_arr ?_)
      | (with_reducible refine kp_app ?_)
      | ((with_reducible refine kp_skip ?_ ?_); rfl)
      | ((with_reducible refine t_cond fun A B => ?_); simp only [go_sem, Int.cast_ofNat_Int, Nat.reduceEqDiff, reduceIte, Nat.reduceAdd, Nat.reduceMul, Nat.reduceLeDiff, Nat.reduceSub, Nat.reduceLT, Nat.zero_lt_succ, Int.reduceToNat, Int.reduceAdd, Int.reduceSub, Int.reduceMul, Int.reduceNeg, Int.reduceLT, Int.reduceLE, Int.reduceEq, Int.reduceBEq, Int.reduceBNe, Nat.reduceBEq, List.reduceReplicate, con10_f, con18_f, t1, t2]; first | (with_reducible refine A.h ?_) | (with_reducible refine B.h ?_) | refine And.intro (fun hc => A.h ?_) (fun hc => B.h ?_))
      | simp only [thenQ_n, thenQ_r, thenQ_e, blockQ_n, blockQ_r, blockQ_e, scopeQ_n, scopeQ_r, scopeQ_e, Nat.reduceEqDiff, reduceIte]
      | (with_reducible refine And.intro ?_ ?_)
      | with_reducible intro vr)
    all_goals try (intros; (try simp only [Bool.and_eq_true, Bool.or_eq_true, Bool.not_eq_true', decide_eq_true_eq, decide_eq_false_iff_not, beq_iff_eq, bne_iff_ne, ne_eq, inI64, List.length_append] at *) <;> omega)
    refine end_ret rfl ?_
    simp only [fin, go_sem, Int.cast_ofNat_Int, Nat.reduceEqDiff, reduceIte, Nat.reduceAdd, Nat.reduceMul, Nat.reduceLeDiff, Nat.reduceSub, Nat.reduceLT, Nat.zero_lt_succ, Int.reduceToNat, Int.reduceAdd, Int.reduceSub, Int.reduceMul, Int.reduceNeg, Int.reduceLT, Int.reduceLE, Int.reduceEq, Int.reduceBEq, Int.reduceBNe, Nat.reduceBEq, List.reduceReplicate]
    exact nilAe_le
noncomputable def con20 : PCon Tryd.prog where
  f := 20
  c := fun
    | [.lit (.string e), xd] => match slK .i64 xd with | some d => some (d.length ≤ 1000000, aeV (zerosS e d)) | _ => none
    | _ => none
  ok := by
    intro args p r hc hp
    split at hc
    · split at hc
      · rename_i hd
        cases hc
        exact PC.weak (zeros_pc hp) ⟨LeA.refl _, slK_le hd, trivial⟩
      · cases hc
    · cases hc
  fk := fk20
theorem con20_f : con20.f = 20 := rfl
theorem con20_c {e : ByteArray} {xd : AV} : con20.c [.lit (.string e), xd] = match slK .i64 xd with | some d => some (d.length ≤ 1000000, aeV (zerosS e d)) | _ => none := rfl
end Go.Proofs.YtjlcbojpiieafaaDoor

/- A law's arguments that are structs. -/
namespace Go.Proofs.YtjlcbojpiieafaaDoor
open Go Go.Fw

def fieldTs (P : Program) (t : TypeId) : List TypeId := match P.underlying t with
  | some (.struct fs) => fs.toList.map (·.type)
  | _ => []
theorem struct_of {P : Program} {t : TypeId} {ts : List TypeId} (hne : ts ≠ []) (h : fieldTs P t = ts) : ∃ fs : Array Field, P.underlying t = some (.struct fs) ∧ fs.toList.map (·.type) = ts := by
  unfold fieldTs at h
  split at h
  · rename_i e; exact ⟨_, e, h⟩
  · exact absurd h.symm hne
theorem sh_fields {P : Program} {t : TypeId} {ts : List TypeId} {xs : List AV} (hne : ts ≠ []) (ht : fieldTs P t = ts) (h : Sh P t xs) :
    ∃ xss : List (List AV), xs = xss.flatten ∧ xss.length = ts.length ∧ ∀ (i : Nat) (u : TypeId) (ys : List AV), ts[i]? = some u → xss[i]? = some ys → Sh P u ys := by
  obtain ⟨fs, hf, hm⟩ := struct_of hne ht
  obtain ⟨xss, h1, h2, h3⟩ := sh_struct hf h
  refine ⟨xss, h1, by rw [h2, ← hm]; simp, fun i u ys hu hy => ?_⟩
  rw [← hm, List.getElem?_map] at hu
  cases hi : fs.toList[i]? with
  | none => rw [hi] at hu; cases hu
  | some f => rw [hi] at hu; cases hu; exact h3 i f ys hi hy
theorem sh_three {P : Program} {t a b c : TypeId} {xs : List AV} (ht : fieldTs P t = [a, b, c]) (h : Sh P t xs) : ∃ p q r, xs = p ++ (q ++ r) ∧ Sh P a p ∧ Sh P b q ∧ Sh P c r := by
  obtain ⟨xss, h1, h2, h3⟩ := sh_fields (by simp) ht h
  match xss, h2 with
  | [p, q, r], _ => exact ⟨p, q, r, by simpa using h1, h3 0 a p rfl rfl, h3 1 b q rfl rfl, h3 2 c r rfl rfl⟩
theorem sh_two {P : Program} {t a b : TypeId} {xs : List AV} (ht : fieldTs P t = [a, b]) (h : Sh P t xs) : ∃ p q, xs = p ++ q ∧ Sh P a p ∧ Sh P b q := by
  obtain ⟨xss, h1, h2, h3⟩ := sh_fields (by simp) ht h
  match xss, h2 with
  | [p, q], _ => exact ⟨p, q, by simpa using h1, h3 0 a p rfl rfl, h3 1 b q rfl rfl⟩
theorem ft35 : fieldTs Tryd.prog 35 = [9, 22, 22] := by kernel_rfl
def okW (a : Arr) : Prop := (∀ n ∈ a.d, inI64 n) ∧ (∀ n ∈ a.x, inI64 n) ∧ a.d.length ≤ maxLen ∧ a.x.length ≤ maxLen
theorem shv_arr {x : AV} (h : ShV Tryd.prog 35 x) : ∃ a : Arr, x = arrV a ∧ okW a := by
  obtain ⟨c, rfl, hc⟩ := shv_agg ag35 h
  obtain ⟨p, q, r, rfl, hp, hq, hr⟩ := sh_three ft35 hc
  obtain ⟨s, rfl, hs⟩ := sh_str u9 hp
  obtain ⟨d, rfl, hd, hd'⟩ := sh_ints u22 u3 sz3 hq
  obtain ⟨w, rfl, hw, hw'⟩ := sh_ints u22 u3 sz3 hr
  exact ⟨⟨s, d, w⟩, rfl, fun n hn => wf_i64 (hd' n hn), fun n hn => wf_i64 (hw' n hn), hd, hw⟩
end Go.Proofs.YtjlcbojpiieafaaDoor

/- Products of dimensions, places, cells: plain facts. -/
namespace Go.Fw
theorem kp_skip {D : Nat → Bool} {x y : AObj} {l l' : List AObj} (h0 : D 0 = false) (h : Kp (fun i => D (i + 1)) l l') : Kp D (x :: l) (y :: l') := fun o t cs d e => by
  cases o with
  | zero => rw [h0] at d; cases d
  | succ o => exact h o t cs d e
end Go.Fw
namespace Go.Proofs.YtjlcbojpiieafaaDoor
open Go Go.Fw

def prI : List Int → Int
  | [] => 1
  | d :: t => d * prI t
def dimOk (l : List Int) : Prop := ∀ x ∈ l, 0 ≤ x ∧ x ≤ 4096
theorem prI_app : ∀ l m : List Int, prI (l ++ m) = prI l * prI m
  | [], m => by simp [prI]
  | d :: t, m => by simp [prI, prI_app t m, Int.mul_assoc]
theorem prI_nonneg : ∀ {l : List Int}, dimOk l → 0 ≤ prI l
  | [], _ => by decide
  | d :: t, h => Int.mul_nonneg (h d (by simp)).1 (prI_nonneg fun x hx => h x (by simp [hx]))
theorem prI_pos : ∀ {l : List Int}, (∀ x ∈ l, 1 ≤ x) → 1 ≤ prI l
  | [], _ => by decide
  | d :: t, h => by
    have h1 := h d (by simp)
    have h2 := prI_pos (l := t) fun x hx => h x (by simp [hx])
    have := Int.mul_le_mul h1 h2 (by omega) (by omega)
    simpa [prI] using this
theorem prI_zero : ∀ {l : List Int}, (l.any fun d => 0 == d) = true → prI l = 0
  | [], h => by simp at h
  | d :: t, h => by
    rw [List.any_cons, Bool.or_eq_true] at h
    rcases h with h | h
    · rw [beq_iff_eq] at h; rw [prI, ← h, Int.zero_mul]
    · rw [prI, prI_zero h, Int.mul_zero]
theorem prI_pow : ∀ {l : List Int}, dimOk l → prI l ≤ 4096 ^ l.length
  | [], _ => by decide
  | d :: t, h => by
    have h1 := h d (by simp)
    have ht : dimOk t := fun x hx => h x (by simp [hx])
    have h2 := prI_pow ht
    have h0 := prI_nonneg ht
    have := Int.mul_le_mul h1.2 h2 h0 (by omega)
    rw [prI, List.length_cons, Int.pow_succ, Int.mul_comm _ 4096]
    exact this
theorem prodS_eq : ∀ {l : List Int} {m n : Int}, prodS l m = (n, 0) → n = m * prI l
  | [], m, n, h => by simp only [prodS, Prod.mk.injEq] at h; rw [prI]; omega
  | d :: t, m, n, h => by
    unfold prodS at h
    split at h
    · cases h
    · rw [prI, ← Int.mul_assoc]; exact prodS_eq h
theorem prodS_ok : ∀ {l : List Int} {m : Int}, (∀ x ∈ l, 1 ≤ x) → 1 ≤ m → m * prI l ≤ 4096 → prodS l m = (m * prI l, 0)
  | [], m, _, _, _ => by simp [prodS, prI]
  | d :: t, m, h, hm, hb => by
    have h1 := h d (by simp)
    have ht : ∀ x ∈ t, 1 ≤ x := fun x hx => h x (by simp [hx])
    have hp := prI_pos ht
    rw [prI, ← Int.mul_assoc] at hb
    have hmd := Int.mul_le_mul hm h1 (by omega) (by omega)
    have : m * d * 1 ≤ m * d * prI t := Int.mul_le_mul_of_nonneg_left hp (by omega)
    unfold prodS
    rw [if_neg (by omega), prI, ← Int.mul_assoc]
    exact prodS_ok ht (by omega) hb
theorem not_any_zero {l : List Int} (hd : dimOk l) (h : ¬ (l.any fun d => 0 == d) = true) : ∀ x ∈ l, 1 ≤ x := by
  intro x hx
  have : ¬ x = 0 := fun e => h (List.any_eq_true.2 ⟨x, hx, by rw [e]; rfl⟩)
  have := hd x hx
  omega
theorem sizeS_ok {d : List Int} {n : Int} (h : sizeS d = (n, 0)) : d.length ≤ 6 ∧ dimOk d ∧ n = prI d ∧ n ≤ 4096 := by
  have hb := sizeS_bd d
  rw [h] at hb
  unfold sizeS at h
  split at h
  · cases h
  rename_i h6
  split at h
  · cases h
  rename_i hbad
  have hd : dimOk d := bad_no hbad
  split at h
  · rename_i h0
    cases h
    exact ⟨by omega, hd, (prI_zero h0).symm, by decide⟩
  · exact ⟨by omega, hd, by rw [prodS_eq h, Int.one_mul], hb.2⟩
/-- A part of dimensions whose size is right has a size. -/
theorem sizeS_part {f c : List Int} {n : Int} (h : sizeS (f ++ c) = (n, 0)) (hf : ∀ x ∈ f, 1 ≤ x) : sizeS c = (prI c, 0) := by
  obtain ⟨h1, h2, h3, h4⟩ := sizeS_ok h
  have hc : dimOk c := fun x hx => h2 x (by simp [hx])
  unfold sizeS
  rw [if_neg (by simp only [List.length_append] at h1; omega)]
  rw [if_neg (by
    intro hb
    obtain ⟨x, hx, hb⟩ := List.any_eq_true.1 hb
    have := hc x hx
    unfold badD at hb
    rw [Bool.or_eq_true, decide_eq_true_eq, decide_eq_true_eq] at hb
    omega)]
  split
  · rename_i h0; rw [prI_zero h0]
  · rename_i h0
    have hp := prI_pos (not_any_zero hc h0)
    have hq := prI_pos hf
    have : 1 * prI c ≤ prI f * prI c := Int.mul_le_mul_of_nonneg_right hq (by omega)
    rw [← prI_app, ← h3] at this
    rw [prodS_ok (not_any_zero hc h0) (by decide) (by omega), Int.one_mul]
theorem pow_bd : ∀ n : Nat, n ≤ 5 → (4096 : Int) ^ n ≤ 1152921504606846976 := by decide
theorem prI_bd {l : List Int} (hd : dimOk l) (h6 : l.length ≤ 6) (h : l.length = 6 → prI l ≤ 4096) : 0 ≤ prI l ∧ prI l ≤ 1152921504606846976 := by
  refine ⟨prI_nonneg hd, ?_⟩
  have hp := prI_pow hd
  by_cases e : l.length = 6
  · have := h e; omega
  · have := pow_bd l.length (by omega); omega
/-- A part of right dimensions that lies side by side. -/
theorem part_bd {d : List Int} {n : Int} (h : sizeS d = (n, 0)) (i j : Nat) : 0 ≤ prI ((d.drop i).take j) ∧ prI ((d.drop i).take j) ≤ 1152921504606846976 := by
  obtain ⟨h1, h2, h3, h4⟩ := sizeS_ok h
  refine prI_bd (fun x hx => h2 x (List.mem_of_mem_drop (List.mem_of_mem_take hx))) (by simp only [List.length_take, List.length_drop]; omega) fun e => ?_
  simp only [List.length_take, List.length_drop] at e
  have : (d.drop i).take j = d := by
    have hi : i = 0 := by omega
    subst hi
    rw [List.drop_zero, List.take_of_length_le (by omega)]
  rw [this, ← h3]
  exact h4
/-- The number of a place in a frame. -/
def atS : List Int → List Int → Int → Option Int
  | d :: f, n :: o, k => if n < 0 ∨ n ≥ d then none else atS f o (k * d + n)
  | _, _, k => some k
theorem prI_take_succ {f : List Int} {i : Nat} (h : i < f.length) : prI (f.take (i + 1)) = prI (f.take i) * f.getD i 0 := by
  rw [List.take_add_one, prI_app]
  congr 1
  rw [List.getD_eq_getElem?_getD, List.getElem?_eq_getElem h]
  simp [prI]
theorem at_step {k p d n : Int} (hk : 0 ≤ k) (hk' : k < p) (hn : 0 ≤ n) (hn' : n < d) : 0 ≤ k * d ∧ 0 ≤ k * d + n ∧ k * d + n < p * d := by
  have h1 : 0 ≤ k * d := Int.mul_nonneg hk (by omega)
  have h2 : (k + 1) * d ≤ p * d := Int.mul_le_mul_of_nonneg_right (by omega) (by omega)
  rw [Int.add_mul, Int.one_mul] at h2
  exact ⟨h1, by omega, by omega⟩
theorem ofE_inv {a : Arr} (h : ofE a = 0) : tyOk a.e = true ∧ sizeS a.d = ((a.x.length : Int), 0) ∧ bad a = false := by
  have ht : tyOk a.e = true := by
    cases e : tyOk a.e with
    | true => rfl
    | false => rw [ofE_ty e] at h; cases h
  have hs : (sizeS a.d).2 = 0 := by
    by_cases e : (sizeS a.d).2 = 0
    · exact e
    · rw [ofE_sz ht e] at h; exact absurd h e
  have hl : (a.x.length : Int) = (sizeS a.d).1 := by
    by_cases e : (a.x.length : Int) = (sizeS a.d).1
    · exact e
    · rw [ofE_len ht hs e] at h; cases h
  have hb : bad a = false := by
    cases e : bad a with
    | false => rfl
    | true => rw [ofE_el ht hs hl, if_pos e] at h; cases h
  exact ⟨ht, Prod.ext hl.symm hs, hb⟩
theorem ofE_zero {a : Arr} (ht : tyOk a.e = true) (hs : sizeS a.d = ((a.x.length : Int), 0)) (hb : bad a = false) : ofE a = 0 := by
  rw [ofE_el ht (by rw [hs]) (by rw [hs]), if_neg (by rw [hb]; decide)]
end Go.Proofs.YtjlcbojpiieafaaDoor
