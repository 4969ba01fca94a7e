/- Sizes of dimensions. -/
import Derived.Test.YtjlcbojpiieafaaDoorDA

set_option linter.all false

namespace Go.Proofs.YtjlcbojpiieafaaDoor
open Go Go.Fw

def szV (p : Int × Int) : AV := .tup [.lit (.int .i64 p.1), .lit (.int .i64 p.2)]
theorem mul_bd {n d : Int} (hn : 0 ≤ n ∧ n ≤ 4096) (hd : 0 ≤ d ∧ d ≤ 4096) : 0 ≤ n * d ∧ n * d ≤ 16777216 := by
  constructor
  · exact Int.mul_nonneg hn.1 hd.1
  · have := Int.mul_le_mul hn.2 hd.2 hd.1 (by omega)
    omega
structure Ls (l : List Int) (G : Int × Int) where
  i : Nat
  n : Int
  hi : i ≤ l.length
  hn : 0 ≤ n ∧ n ≤ 4096
  hF : prodS (l.drop i) n = G
noncomputable def E2 : Env := envOf (P := Tryd.prog) zer (fun _ => false) (fun _ => false) [con31] []
theorem E2_ok : EnvOk Tryd.prog E2 := envOk zer_ok
set_option maxHeartbeats 1000000 in
theorem size_pc {l : List Int} (hl : l.length ≤ 1000000) : PC Tryd.prog 9 [.sl false 1 (ints .i64 l)] (szV (sizeS l)) := by
  unfold sizeS
  by_cases h6 : l.length > 6
  · have g0 : decide ((l.length : Int) > 6) = true := decide_eq_true (by omega)
    rw [if_pos h6]
    refine pc_of E2_ok mixed (fun _ => [0, 2, 3, 5, 6, 8, 11, 12, 13, 14, 15, 23, 26, 27, 28, 29, 30, 37]) Tryd.func9 rfl (by kernel_rfl) (Nat.le_of_ble_eq_true rfl) ?_
    simp only [initF_cons, initF_nil, Nat.reduceAdd]
    refine t_name fun KF => ?_
    unfold E2
    repeat' (first
      | with_reducible refine t_seq fun K => ?_
      | with_reducible refine t_block ?_
      | with_reducible refine t_scope ?_
      | with_reducible refine t_label ?_
      | with_reducible refine t_skip ?_
      | with_reducible refine t_exit ?_
      | with_reducible refine t_ret ?_
      | with_reducible refine t_k ?_
      | (with_reducible refine t_gF ?_)
      | ((first | with_reducible refine t_kE ?_ | with_reducible refine t_kD ?_ | with_reducible refine t_gS ?_ | with_reducible refine t_kL ?_ | (with_reducible refine t_kLE ?_ ?_; rotate_left) | with_reducible refine t_region fun K => ?_ | with_reducible refine t_draw (by kernel_rfl) fun K => ?_); simp only [go_sem, Int.cast_ofNat_Int, Nat.reduceEqDiff, reduceIte, Nat.reduceAdd, Nat.reduceMul, Nat.reduceLeDiff, Nat.reduceSub, Nat.reduceLT, Nat.zero_lt_succ, Int.reduceToNat, Int.reduceAdd, Int.reduceSub, Int.reduceMul, Int.reduceNeg, Int.reduceLT, Int.reduceLE, Int.reduceEq, Int.reduceBEq, Int.reduceBNe, Nat.reduceBEq, List.reduceReplicate, con31_f, g0])
      | (with_reducible exact kp_nil)
      | (with_reducible exact Kp.refl _)
      | (with_reducible exact kp_to)
      | (with_reducible refine kp_cons ?_)
      | (with_reducible refine kp_arr ?_)
      | (with_reducible refine kp_app ?_)
      | ((with_reducible refine kp_skip ?_ ?_); rfl)
      | ((with_reducible refine t_cond fun A B => ?_); simp only [go_sem, Int.cast_ofNat_Int, Nat.reduceEqDiff, reduceIte, Nat.reduceAdd, Nat.reduceMul, Nat.reduceLeDiff, Nat.reduceSub, Nat.reduceLT, Nat.zero_lt_succ, Int.reduceToNat, Int.reduceAdd, Int.reduceSub, Int.reduceMul, Int.reduceNeg, Int.reduceLT, Int.reduceLE, Int.reduceEq, Int.reduceBEq, Int.reduceBNe, Nat.reduceBEq, List.reduceReplicate, con31_f, g0]; first | (with_reducible refine A.h ?_) | (with_reducible refine B.h ?_) | refine And.intro (fun hc => A.h ?_) (fun hc => B.h ?_))
      | simp only [thenQ_n, thenQ_r, thenQ_e, blockQ_n, blockQ_r, blockQ_e, scopeQ_n, scopeQ_r, scopeQ_e, Nat.reduceEqDiff, reduceIte]
      | (with_reducible refine And.intro ?_ ?_)
      | with_reducible intro vr)
    refine end_ret rfl ?_
    simp only [fin, go_sem, Int.cast_ofNat_Int, Nat.reduceEqDiff, reduceIte, Nat.reduceAdd, Nat.reduceMul, Nat.reduceLeDiff, Nat.reduceSub, Nat.reduceLT, Nat.zero_lt_succ, Int.reduceToNat, Int.reduceAdd, Int.reduceSub, Int.reduceMul, Int.reduceNeg, Int.reduceLT, Int.reduceLE, Int.reduceEq, Int.reduceBEq, Int.reduceBNe, Nat.reduceBEq, List.reduceReplicate, szV]
    exact LeA.refl _
  · have g0 : decide ((l.length : Int) > 6) = false := decide_eq_false (by omega)
    rw [if_neg h6]
    generalize hB : l.any badD = Bb
    generalize hG : prodS l 1 = G
    refine pc_of E2_ok mixed (fun _ => [0, 2, 3, 5, 6, 8, 11, 12, 13, 14, 15, 23, 26, 27, 28, 29, 30, 37]) Tryd.func9 rfl (by kernel_rfl) (Nat.le_of_ble_eq_true rfl) ?_
    simp only [initF_cons, initF_nil, Nat.reduceAdd]
    refine t_name fun KF => ?_
    unfold E2
    repeat' (first
      | with_reducible refine t_seq fun K => ?_
      | with_reducible refine t_block ?_
      | with_reducible refine t_scope ?_
      | with_reducible refine t_label ?_
      | with_reducible refine t_skip ?_
      | with_reducible refine t_exit ?_
      | with_reducible refine t_ret ?_
      | with_reducible refine t_k ?_
      | (with_reducible refine t_gF ?_)
      | ((first | with_reducible refine t_kE ?_ | with_reducible refine t_kD ?_ | with_reducible refine t_gS ?_ | with_reducible refine t_kL ?_ | (with_reducible refine t_kLE ?_ ?_; rotate_left) | with_reducible refine t_region fun K => ?_ | with_reducible refine t_draw (by kernel_rfl) fun K => ?_); simp only [go_sem, Int.cast_ofNat_Int, Nat.reduceEqDiff, reduceIte, Nat.reduceAdd, Nat.reduceMul, Nat.reduceLeDiff, Nat.reduceSub, Nat.reduceLT, Nat.zero_lt_succ, Int.reduceToNat, Int.reduceAdd, Int.reduceSub, Int.reduceMul, Int.reduceNeg, Int.reduceLT, Int.reduceLE, Int.reduceEq, Int.reduceBEq, Int.reduceBNe, Nat.reduceBEq, List.reduceReplicate, con31_f, g0])
      | (with_reducible exact kp_nil)
      | (with_reducible exact Kp.refl _)
      | (with_reducible exact kp_to)
      | (with_reducible refine kp_cons ?_)
      | (with_reducible refine kp_arr ?_)
      | (with_reducible refine kp_app ?_)
      | ((with_reducible refine kp_skip ?_ ?_); rfl)
      | ((with_reducible refine t_cond fun A B => ?_); simp only [go_sem, Int.cast_ofNat_Int, Nat.reduceEqDiff, reduceIte, Nat.reduceAdd, Nat.reduceMul, Nat.reduceLeDiff, Nat.reduceSub, Nat.reduceLT, Nat.zero_lt_succ, Int.reduceToNat, Int.reduceAdd, Int.reduceSub, Int.reduceMul, Int.reduceNeg, Int.reduceLT, Int.reduceLE, Int.reduceEq, Int.reduceBEq, Int.reduceBNe, Nat.reduceBEq, List.reduceReplicate, con31_f, g0]; first | (with_reducible refine A.h ?_) | (with_reducible refine B.h ?_) | refine And.intro (fun hc => A.h ?_) (fun hc => B.h ?_))
      | simp only [thenQ_n, thenQ_r, thenQ_e, blockQ_n, blockQ_r, blockQ_e, scopeQ_n, scopeQ_r, scopeQ_e, Nat.reduceEqDiff, reduceIte]
      | (with_reducible refine And.intro ?_ ?_)
      | with_reducible intro vr)
    refine t_loop (ι := { i : Nat // i ≤ l.length ∧ (l.drop i).any badD = Bb }) (fun i => ⟨upd (upd (upd (upd topF 14 (.lit (.int .i64 i.1))) 13 (.lit (.int .i64 l.length))) 12 (.sl false 1 (ints .i64 l))) 0 (.sl false 1 (ints .i64 l)), []⟩) (fun i => l.length - i.1) ⟨0, by omega, hB⟩ ?_ ?_
    · skip
      (refine Le.frame ?_; repeat' (first | exact leF_top _ | (with_reducible refine leF_sl ?_ ?_) | (refine leF_upd (LeR.of_eq ?_) ?_))) <;> (try (simp only [go_sem, Int.cast_ofNat_Int, Nat.reduceEqDiff, reduceIte, Nat.reduceAdd, Nat.reduceMul, Nat.reduceLeDiff, Nat.reduceSub, Nat.reduceLT, Nat.zero_lt_succ, Int.reduceToNat, Int.reduceAdd, Int.reduceSub, Int.reduceMul, Int.reduceNeg, Int.reduceLT, Int.reduceLE, Int.reduceEq, Int.reduceBEq, Int.reduceBNe, Nat.reduceBEq, List.reduceReplicate]; try rfl))
    · rintro ⟨i, hi, hF⟩ K0
      rcases Nat.lt_or_ge i l.length with hc | hc
      · have g1 : decide ((i : Int) < (l.length : Int)) = true := decide_eq_true (by omega)
        have g2 := ints_getD .i64 l i hc
        rw [drop_getD 0 hc, List.any_cons] at hF
        generalize l.getD i 0 = d at g2 hF
        rw [show badD d = (decide (d < 0) || decide (d > 4096)) from rfl] at hF
        by_cases d1 : d < 0
        · have d1' : decide (d < 0) = true := decide_eq_true d1
          have : Bb = true := by rw [← hF, d1']; rfl
          subst this
          repeat' (first
            | with_reducible refine t_seq fun K => ?_
            | with_reducible refine t_block ?_
            | with_reducible refine t_scope ?_
            | with_reducible refine t_label ?_
            | with_reducible refine t_skip ?_
            | with_reducible refine t_exit ?_
            | with_reducible refine t_ret ?_
            | with_reducible refine t_k ?_
            | (with_reducible refine t_gF ?_)
            | ((first | with_reducible refine t_kE ?_ | with_reducible refine t_kD ?_ | with_reducible refine t_gS ?_ | with_reducible refine t_kL ?_ | (with_reducible refine t_kLE ?_ ?_; rotate_left) | with_reducible refine t_region fun K => ?_ | with_reducible refine t_draw (by kernel_rfl) fun K => ?_); simp only [go_sem, Int.cast_ofNat_Int, Nat.reduceEqDiff, reduceIte, Nat.reduceAdd, Nat.reduceMul, Nat.reduceLeDiff, Nat.reduceSub, Nat.reduceLT, Nat.zero_lt_succ, Int.reduceToNat, Int.reduceAdd, Int.reduceSub, Int.reduceMul, Int.reduceNeg, Int.reduceLT, Int.reduceLE, Int.reduceEq, Int.reduceBEq, Int.reduceBNe, Nat.reduceBEq, List.reduceReplicate, con31_f, g1, g2, d1', Int.toNat_natCast])
            | (with_reducible exact kp_nil)
            | (with_reducible exact Kp.refl _)
            | (with_reducible exact kp_to)
            | (with_reducible refine kp_cons ?_)
            | (with_reducible refine kp_arr ?_)
            | (with_reducible refine kp_app ?_)
            | ((with_reducible refine kp_skip ?_ ?_); rfl)
            | ((with_reducible refine t_cond fun A B => ?_); simp only [go_sem, Int.cast_ofNat_Int, Nat.reduceEqDiff, reduceIte, Nat.reduceAdd, Nat.reduceMul, Nat.reduceLeDiff, Nat.reduceSub, Nat.reduceLT, Nat.zero_lt_succ, Int.reduceToNat, Int.reduceAdd, Int.reduceSub, Int.reduceMul, Int.reduceNeg, Int.reduceLT, Int.reduceLE, Int.reduceEq, Int.reduceBEq, Int.reduceBNe, Nat.reduceBEq, List.reduceReplicate, con31_f, g1, g2, d1', Int.toNat_natCast]; first | (with_reducible refine A.h ?_) | (with_reducible refine B.h ?_) | refine And.intro (fun hc => A.h ?_) (fun hc => B.h ?_))
            | simp only [thenQ_n, thenQ_r, thenQ_e, blockQ_n, blockQ_r, blockQ_e, scopeQ_n, scopeQ_r, scopeQ_e, Nat.reduceEqDiff, reduceIte]
            | (with_reducible refine And.intro ?_ ?_)
            | with_reducible intro vr)
          all_goals try (intros; (try simp only [Bool.and_eq_true, Bool.or_eq_true, Bool.not_eq_true', decide_eq_true_eq, decide_eq_false_iff_not, beq_iff_eq, bne_iff_ne, ne_eq, inI64, List.length_append] at *) <;> omega)
          refine end_ret rfl ?_
          simp only [fin, go_sem, Int.cast_ofNat_Int, Nat.reduceEqDiff, reduceIte, Nat.reduceAdd, Nat.reduceMul, Nat.reduceLeDiff, Nat.reduceSub, Nat.reduceLT, Nat.zero_lt_succ, Int.reduceToNat, Int.reduceAdd, Int.reduceSub, Int.reduceMul, Int.reduceNeg, Int.reduceLT, Int.reduceLE, Int.reduceEq, Int.reduceBEq, Int.reduceBNe, Nat.reduceBEq, List.reduceReplicate, szV]
          exact LeA.refl _
        · have d1' : decide (d < 0) = false := decide_eq_false d1
          by_cases d2 : d > 4096
          · have d2' : decide (d > 4096) = true := decide_eq_true d2
            have : Bb = true := by rw [← hF, d1', d2']; rfl
            subst this
            repeat' (first
              | with_reducible refine t_seq fun K => ?_
              | with_reducible refine t_block ?_
              | with_reducible refine t_scope ?_
              | with_reducible refine t_label ?_
              | with_reducible refine t_skip ?_
              | with_reducible refine t_exit ?_
              | with_reducible refine t_ret ?_
              | with_reducible refine t_k ?_
              | (with_reducible refine t_gF ?_)
              | ((first | with_reducible refine t_kE ?_ | with_reducible refine t_kD ?_ | with_reducible refine t_gS ?_ | with_reducible refine t_kL ?_ | (with_reducible refine t_kLE ?_ ?_; rotate_left) | with_reducible refine t_region fun K => ?_ | with_reducible refine t_draw (by kernel_rfl) fun K => ?_); simp only [go_sem, Int.cast_ofNat_Int, Nat.reduceEqDiff, reduceIte, Nat.reduceAdd, Nat.reduceMul, Nat.reduceLeDiff, Nat.reduceSub, Nat.reduceLT, Nat.zero_lt_succ, Int.reduceToNat, Int.reduceAdd, Int.reduceSub, Int.reduceMul, Int.reduceNeg, Int.reduceLT, Int.reduceLE, Int.reduceEq, Int.reduceBEq, Int.reduceBNe, Nat.reduceBEq, List.reduceReplicate, con31_f, g1, g2, d1', d2', Int.toNat_natCast])
              | (with_reducible exact kp_nil)
              | (with_reducible exact Kp.refl _)
              | (with_reducible exact kp_to)
              | (with_reducible refine kp_cons ?_)
              | (with_reducible refine kp_arr ?_)
              | (with_reducible refine kp_app ?_)
              | ((with_reducible refine kp_skip ?_ ?_); rfl)
              | ((with_reducible refine t_cond fun A B => ?_); simp only [go_sem, Int.cast_ofNat_Int, Nat.reduceEqDiff, reduceIte, Nat.reduceAdd, Nat.reduceMul, Nat.reduceLeDiff, Nat.reduceSub, Nat.reduceLT, Nat.zero_lt_succ, Int.reduceToNat, Int.reduceAdd, Int.reduceSub, Int.reduceMul, Int.reduceNeg, Int.reduceLT, Int.reduceLE, Int.reduceEq, Int.reduceBEq, Int.reduceBNe, Nat.reduceBEq, List.reduceReplicate, con31_f, g1, g2, d1', d2', Int.toNat_natCast]; first | (with_reducible refine A.h ?_) | (with_reducible refine B.h ?_) | refine And.intro (fun hc => A.h ?_) (fun hc => B.h ?_))
              | simp only [thenQ_n, thenQ_r, thenQ_e, blockQ_n, blockQ_r, blockQ_e, scopeQ_n, scopeQ_r, scopeQ_e, Nat.reduceEqDiff, reduceIte]
              | (with_reducible refine And.intro ?_ ?_)
              | with_reducible intro vr)
            all_goals try (intros; (try simp only [Bool.and_eq_true, Bool.or_eq_true, Bool.not_eq_true', decide_eq_true_eq, decide_eq_false_iff_not, beq_iff_eq, bne_iff_ne, ne_eq, inI64, List.length_append] at *) <;> omega)
            refine end_ret rfl ?_
            simp only [fin, go_sem, Int.cast_ofNat_Int, Nat.reduceEqDiff, reduceIte, Nat.reduceAdd, Nat.reduceMul, Nat.reduceLeDiff, Nat.reduceSub, Nat.reduceLT, Nat.zero_lt_succ, Int.reduceToNat, Int.reduceAdd, Int.reduceSub, Int.reduceMul, Int.reduceNeg, Int.reduceLT, Int.reduceLE, Int.reduceEq, Int.reduceBEq, Int.reduceBNe, Nat.reduceBEq, List.reduceReplicate, szV]
            exact LeA.refl _
          · have d2' : decide (d > 4096) = false := decide_eq_false d2
            rw [d1', d2', Bool.false_or, Bool.false_or] at hF
            repeat' (first
              | with_reducible refine t_seq fun K => ?_
              | with_reducible refine t_block ?_
              | with_reducible refine t_scope ?_
              | with_reducible refine t_label ?_
              | with_reducible refine t_skip ?_
              | with_reducible refine t_exit ?_
              | with_reducible refine t_ret ?_
              | with_reducible refine t_k ?_
              | (with_reducible refine t_gF ?_)
              | ((first | with_reducible refine t_kE ?_ | with_reducible refine t_kD ?_ | with_reducible refine t_gS ?_ | with_reducible refine t_kL ?_ | (with_reducible refine t_kLE ?_ ?_; rotate_left) | with_reducible refine t_region fun K => ?_ | with_reducible refine t_draw (by kernel_rfl) fun K => ?_); simp only [go_sem, Int.cast_ofNat_Int, Nat.reduceEqDiff, reduceIte, Nat.reduceAdd, Nat.reduceMul, Nat.reduceLeDiff, Nat.reduceSub, Nat.reduceLT, Nat.zero_lt_succ, Int.reduceToNat, Int.reduceAdd, Int.reduceSub, Int.reduceMul, Int.reduceNeg, Int.reduceLT, Int.reduceLE, Int.reduceEq, Int.reduceBEq, Int.reduceBNe, Nat.reduceBEq, List.reduceReplicate, con31_f, g1, g2, d1', d2', Int.toNat_natCast])
              | (with_reducible exact kp_nil)
              | (with_reducible exact Kp.refl _)
              | (with_reducible exact kp_to)
              | (with_reducible refine kp_cons ?_)
              | (with_reducible refine kp_arr ?_)
              | (with_reducible refine kp_app ?_)
              | ((with_reducible refine kp_skip ?_ ?_); rfl)
              | ((with_reducible refine t_cond fun A B => ?_); simp only [go_sem, Int.cast_ofNat_Int, Nat.reduceEqDiff, reduceIte, Nat.reduceAdd, Nat.reduceMul, Nat.reduceLeDiff, Nat.reduceSub, Nat.reduceLT, Nat.zero_lt_succ, Int.reduceToNat, Int.reduceAdd, Int.reduceSub, Int.reduceMul, Int.reduceNeg, Int.reduceLT, Int.reduceLE, Int.reduceEq, Int.reduceBEq, Int.reduceBNe, Nat.reduceBEq, List.reduceReplicate, con31_f, g1, g2, d1', d2', Int.toNat_natCast]; first | (with_reducible refine A.h ?_) | (with_reducible refine B.h ?_) | refine And.intro (fun hc => A.h ?_) (fun hc => B.h ?_))
              | simp only [thenQ_n, thenQ_r, thenQ_e, blockQ_n, blockQ_r, blockQ_e, scopeQ_n, scopeQ_r, scopeQ_e, Nat.reduceEqDiff, reduceIte]
              | (with_reducible refine And.intro ?_ ?_)
              | with_reducible intro vr)
            all_goals try (intros; (try simp only [Bool.and_eq_true, Bool.or_eq_true, Bool.not_eq_true', decide_eq_true_eq, decide_eq_false_iff_not, beq_iff_eq, bne_iff_ne, ne_eq, inI64, List.length_append] at *) <;> omega)
            refine ⟨⟨i + 1, by omega, hF⟩, by simp only; omega, ?_⟩
            (refine Le.frame ?_; repeat' (first | exact leF_top _ | (with_reducible refine leF_sl ?_ ?_) | (refine leF_upd (LeR.of_eq ?_) ?_))) <;> (try (simp only [go_sem, Int.cast_ofNat_Int, Nat.reduceEqDiff, reduceIte, Nat.reduceAdd, Nat.reduceMul, Nat.reduceLeDiff, Nat.reduceSub, Nat.reduceLT, Nat.zero_lt_succ, Int.reduceToNat, Int.reduceAdd, Int.reduceSub, Int.reduceMul, Int.reduceNeg, Int.reduceLT, Int.reduceLE, Int.reduceEq, Int.reduceBEq, Int.reduceBNe, Nat.reduceBEq, List.reduceReplicate]; try rfl))
      · have g1 : decide ((i : Int) < (l.length : Int)) = false := decide_eq_false (by omega)
        rw [List.drop_eq_nil_of_le hc, List.any_nil] at hF
        subst hF
        have hd := bad_no (by rw [hB]; simp)
        by_cases h0 : (l.any fun d => 0 == d) = true
        · skip
          repeat' (first
            | with_reducible refine t_seq fun K => ?_
            | with_reducible refine t_block ?_
            | with_reducible refine t_scope ?_
            | with_reducible refine t_label ?_
            | with_reducible refine t_skip ?_
            | with_reducible refine t_exit ?_
            | with_reducible refine t_ret ?_
            | with_reducible refine t_k ?_
            | (with_reducible refine t_gF ?_)
            | ((first | with_reducible refine t_kE ?_ | with_reducible refine t_kD ?_ | with_reducible refine t_gS ?_ | with_reducible refine t_kL ?_ | (with_reducible refine t_kLE ?_ ?_; rotate_left) | with_reducible refine t_region fun K => ?_ | with_reducible refine t_draw (by kernel_rfl) fun K => ?_); simp only [go_sem, Int.cast_ofNat_Int, Nat.reduceEqDiff, reduceIte, Nat.reduceAdd, Nat.reduceMul, Nat.reduceLeDiff, Nat.reduceSub, Nat.reduceLT, Nat.zero_lt_succ, Int.reduceToNat, Int.reduceAdd, Int.reduceSub, Int.reduceMul, Int.reduceNeg, Int.reduceLT, Int.reduceLE, Int.reduceEq, Int.reduceBEq, Int.reduceBNe, Nat.reduceBEq, List.reduceReplicate, con31_f, con31_c, slK_sl, g1, h0])
            | (with_reducible exact kp_nil)
            | (with_reducible exact Kp.refl _)
            | (with_reducible exact kp_to)
            | (with_reducible refine kp_cons ?_)
            | (with_reducible refine kp_arr ?_)
            | (with_reducible refine kp_app ?_)
            | ((with_reducible refine kp_skip ?_ ?_); rfl)
            | ((with_reducible refine t_cond fun A B => ?_); simp only [go_sem, Int.cast_ofNat_Int, Nat.reduceEqDiff, reduceIte, Nat.reduceAdd, Nat.reduceMul, Nat.reduceLeDiff, Nat.reduceSub, Nat.reduceLT, Nat.zero_lt_succ, Int.reduceToNat, Int.reduceAdd, Int.reduceSub, Int.reduceMul, Int.reduceNeg, Int.reduceLT, Int.reduceLE, Int.reduceEq, Int.reduceBEq, Int.reduceBNe, Nat.reduceBEq, List.reduceReplicate, con31_f, con31_c, slK_sl, g1, h0]; first | (with_reducible refine A.h ?_) | (with_reducible refine B.h ?_) | refine And.intro (fun hc => A.h ?_) (fun hc => B.h ?_))
            | simp only [thenQ_n, thenQ_r, thenQ_e, blockQ_n, blockQ_r, blockQ_e, scopeQ_n, scopeQ_r, scopeQ_e, Nat.reduceEqDiff, reduceIte]
            | (with_reducible refine And.intro ?_ ?_)
            | with_reducible intro vr)
          all_goals try (intros; (try simp only [Bool.and_eq_true, Bool.or_eq_true, Bool.not_eq_true', decide_eq_true_eq, decide_eq_false_iff_not, beq_iff_eq, bne_iff_ne, ne_eq, inI64, List.length_append] at *) <;> omega)
          refine end_ret rfl ?_
          simp only [fin, go_sem, Int.cast_ofNat_Int, Nat.reduceEqDiff, reduceIte, Nat.reduceAdd, Nat.reduceMul, Nat.reduceLeDiff, Nat.reduceSub, Nat.reduceLT, Nat.zero_lt_succ, Int.reduceToNat, Int.reduceAdd, Int.reduceSub, Int.reduceMul, Int.reduceNeg, Int.reduceLT, Int.reduceLE, Int.reduceEq, Int.reduceBEq, Int.reduceBNe, Nat.reduceBEq, List.reduceReplicate, szV, h0, Bool.false_eq_true]
          exact LeA.refl _
        · have h0' : (l.any fun d => 0 == d) = false := Bool.eq_false_iff.2 h0
          repeat' (first
            | with_reducible refine t_seq fun K => ?_
            | with_reducible refine t_block ?_
            | with_reducible refine t_scope ?_
            | with_reducible refine t_label ?_
            | with_reducible refine t_skip ?_
            | with_reducible refine t_exit ?_
            | with_reducible refine t_ret ?_
            | with_reducible refine t_k ?_
            | (with_reducible refine t_gF ?_)
            | ((first | with_reducible refine t_kE ?_ | with_reducible refine t_kD ?_ | with_reducible refine t_gS ?_ | with_reducible refine t_kL ?_ | (with_reducible refine t_kLE ?_ ?_; rotate_left) | with_reducible refine t_region fun K => ?_ | with_reducible refine t_draw (by kernel_rfl) fun K => ?_); simp only [go_sem, Int.cast_ofNat_Int, Nat.reduceEqDiff, reduceIte, Nat.reduceAdd, Nat.reduceMul, Nat.reduceLeDiff, Nat.reduceSub, Nat.reduceLT, Nat.zero_lt_succ, Int.reduceToNat, Int.reduceAdd, Int.reduceSub, Int.reduceMul, Int.reduceNeg, Int.reduceLT, Int.reduceLE, Int.reduceEq, Int.reduceBEq, Int.reduceBNe, Nat.reduceBEq, List.reduceReplicate, con31_f, con31_c, slK_sl, g1, h0'])
            | (with_reducible exact kp_nil)
            | (with_reducible exact Kp.refl _)
            | (with_reducible exact kp_to)
            | (with_reducible refine kp_cons ?_)
            | (with_reducible refine kp_arr ?_)
            | (with_reducible refine kp_app ?_)
            | ((with_reducible refine kp_skip ?_ ?_); rfl)
            | ((with_reducible refine t_cond fun A B => ?_); simp only [go_sem, Int.cast_ofNat_Int, Nat.reduceEqDiff, reduceIte, Nat.reduceAdd, Nat.reduceMul, Nat.reduceLeDiff, Nat.reduceSub, Nat.reduceLT, Nat.zero_lt_succ, Int.reduceToNat, Int.reduceAdd, Int.reduceSub, Int.reduceMul, Int.reduceNeg, Int.reduceLT, Int.reduceLE, Int.reduceEq, Int.reduceBEq, Int.reduceBNe, Nat.reduceBEq, List.reduceReplicate, con31_f, con31_c, slK_sl, g1, h0']; first | (with_reducible refine A.h ?_) | (with_reducible refine B.h ?_) | refine And.intro (fun hc => A.h ?_) (fun hc => B.h ?_))
            | simp only [thenQ_n, thenQ_r, thenQ_e, blockQ_n, blockQ_r, blockQ_e, scopeQ_n, scopeQ_r, scopeQ_e, Nat.reduceEqDiff, reduceIte]
            | (with_reducible refine And.intro ?_ ?_)
            | with_reducible intro vr)
          all_goals try (intros; (try simp only [Bool.and_eq_true, Bool.or_eq_true, Bool.not_eq_true', decide_eq_true_eq, decide_eq_false_iff_not, beq_iff_eq, bne_iff_ne, ne_eq, inI64, List.length_append] at *) <;> omega)
          refine t_loop (ι := Ls l G) (fun i => ⟨upd (upd (upd (upd topF 29 (.lit (.int .i64 i.i))) 28 (.lit (.int .i64 l.length))) 27 (.sl false 1 (ints .i64 l))) 6 (.lit (.int .i64 i.n)), []⟩) (fun i => l.length - i.i) ⟨0, 1, by omega, by omega, hG⟩ ?_ ?_
          · skip
            (refine Le.frame ?_; repeat' (first | exact leF_top _ | (with_reducible refine leF_sl ?_ ?_) | (refine leF_upd (LeR.of_eq ?_) ?_))) <;> (try (simp only [go_sem, Int.cast_ofNat_Int, Nat.reduceEqDiff, reduceIte, Nat.reduceAdd, Nat.reduceMul, Nat.reduceLeDiff, Nat.reduceSub, Nat.reduceLT, Nat.zero_lt_succ, Int.reduceToNat, Int.reduceAdd, Int.reduceSub, Int.reduceMul, Int.reduceNeg, Int.reduceLT, Int.reduceLE, Int.reduceEq, Int.reduceBEq, Int.reduceBNe, Nat.reduceBEq, List.reduceReplicate]; try rfl))
          · rintro ⟨i, n, hi, hn, hF⟩ K1
            rcases Nat.lt_or_ge i l.length with hc | hc
            · have g1 : decide ((i : Int) < (l.length : Int)) = true := decide_eq_true (by omega)
              have g2 := ints_getD .i64 l i hc
              have hd' := hd (l.getD i 0) (by rw [List.getD_eq_getElem?_getD, List.getElem?_eq_getElem hc]; exact List.getElem_mem _)
              rw [drop_getD 0 hc, prodS] at hF
              generalize l.getD i 0 = d at g2 hF hd'
              have hb := mul_bd hn hd'
              by_cases hp : n * d > 4096
              · have hp' : decide (n * d > 4096) = true := decide_eq_true hp
                rw [if_pos hp] at hF
                subst hF
                repeat' (first
                  | with_reducible refine t_seq fun K => ?_
                  | with_reducible refine t_block ?_
                  | with_reducible refine t_scope ?_
                  | with_reducible refine t_label ?_
                  | with_reducible refine t_skip ?_
                  | with_reducible refine t_exit ?_
                  | with_reducible refine t_ret ?_
                  | with_reducible refine t_k ?_
                  | (with_reducible refine t_gF ?_)
                  | ((first | with_reducible refine t_kE ?_ | with_reducible refine t_kD ?_ | with_reducible refine t_gS ?_ | with_reducible refine t_kL ?_ | (with_reducible refine t_kLE ?_ ?_; rotate_left) | with_reducible refine t_region fun K => ?_ | with_reducible refine t_draw (by kernel_rfl) fun K => ?_); simp only [go_sem, Int.cast_ofNat_Int, Nat.reduceEqDiff, reduceIte, Nat.reduceAdd, Nat.reduceMul, Nat.reduceLeDiff, Nat.reduceSub, Nat.reduceLT, Nat.zero_lt_succ, Int.reduceToNat, Int.reduceAdd, Int.reduceSub, Int.reduceMul, Int.reduceNeg, Int.reduceLT, Int.reduceLE, Int.reduceEq, Int.reduceBEq, Int.reduceBNe, Nat.reduceBEq, List.reduceReplicate, con31_f, g1, g2, hp', Int.toNat_natCast])
                  | (with_reducible exact kp_nil)
                  | (with_reducible exact Kp.refl _)
                  | (with_reducible exact kp_to)
                  | (with_reducible refine kp_cons ?_)
                  | (with_reducible refine kp_arr ?_)
                  | (with_reducible refine kp_app ?_)
                  | ((with_reducible refine kp_skip ?_ ?_); rfl)
                  | ((with_reducible refine t_cond fun A B => ?_); simp only [go_sem, Int.cast_ofNat_Int, Nat.reduceEqDiff, reduceIte, Nat.reduceAdd, Nat.reduceMul, Nat.reduceLeDiff, Nat.reduceSub, Nat.reduceLT, Nat.zero_lt_succ, Int.reduceToNat, Int.reduceAdd, Int.reduceSub, Int.reduceMul, Int.reduceNeg, Int.reduceLT, Int.reduceLE, Int.reduceEq, Int.reduceBEq, Int.reduceBNe, Nat.reduceBEq, List.reduceReplicate, con31_f, g1, g2, hp', Int.toNat_natCast]; first | (with_reducible refine A.h ?_) | (with_reducible refine B.h ?_) | refine And.intro (fun hc => A.h ?_) (fun hc => B.h ?_))
                  | simp only [thenQ_n, thenQ_r, thenQ_e, blockQ_n, blockQ_r, blockQ_e, scopeQ_n, scopeQ_r, scopeQ_e, Nat.reduceEqDiff, reduceIte]
                  | (with_reducible refine And.intro ?_ ?_)
                  | with_reducible intro vr)
                all_goals try (intros; (try simp only [Bool.and_eq_true, Bool.or_eq_true, Bool.not_eq_true', decide_eq_true_eq, decide_eq_false_iff_not, beq_iff_eq, bne_iff_ne, ne_eq, inI64, List.length_append] at *) <;> omega)
                refine end_ret rfl ?_
                simp only [fin, go_sem, Int.cast_ofNat_Int, Nat.reduceEqDiff, reduceIte, Nat.reduceAdd, Nat.reduceMul, Nat.reduceLeDiff, Nat.reduceSub, Nat.reduceLT, Nat.zero_lt_succ, Int.reduceToNat, Int.reduceAdd, Int.reduceSub, Int.reduceMul, Int.reduceNeg, Int.reduceLT, Int.reduceLE, Int.reduceEq, Int.reduceBEq, Int.reduceBNe, Nat.reduceBEq, List.reduceReplicate, szV, h0', Bool.false_eq_true]
                exact LeA.refl _
              · have hp' : decide (n * d > 4096) = false := decide_eq_false hp
                rw [if_neg hp] at hF
                repeat' (first
                  | with_reducible refine t_seq fun K => ?_
                  | with_reducible refine t_block ?_
                  | with_reducible refine t_scope ?_
                  | with_reducible refine t_label ?_
                  | with_reducible refine t_skip ?_
                  | with_reducible refine t_exit ?_
                  | with_reducible refine t_ret ?_
                  | with_reducible refine t_k ?_
                  | (with_reducible refine t_gF ?_)
                  | ((first | with_reducible refine t_kE ?_ | with_reducible refine t_kD ?_ | with_reducible refine t_gS ?_ | with_reducible refine t_kL ?_ | (with_reducible refine t_kLE ?_ ?_; rotate_left) | with_reducible refine t_region fun K => ?_ | with_reducible refine t_draw (by kernel_rfl) fun K => ?_); simp only [go_sem, Int.cast_ofNat_Int, Nat.reduceEqDiff, reduceIte, Nat.reduceAdd, Nat.reduceMul, Nat.reduceLeDiff, Nat.reduceSub, Nat.reduceLT, Nat.zero_lt_succ, Int.reduceToNat, Int.reduceAdd, Int.reduceSub, Int.reduceMul, Int.reduceNeg, Int.reduceLT, Int.reduceLE, Int.reduceEq, Int.reduceBEq, Int.reduceBNe, Nat.reduceBEq, List.reduceReplicate, con31_f, g1, g2, hp', Int.toNat_natCast])
                  | (with_reducible exact kp_nil)
                  | (with_reducible exact Kp.refl _)
                  | (with_reducible exact kp_to)
                  | (with_reducible refine kp_cons ?_)
                  | (with_reducible refine kp_arr ?_)
                  | (with_reducible refine kp_app ?_)
                  | ((with_reducible refine kp_skip ?_ ?_); rfl)
                  | ((with_reducible refine t_cond fun A B => ?_); simp only [go_sem, Int.cast_ofNat_Int, Nat.reduceEqDiff, reduceIte, Nat.reduceAdd, Nat.reduceMul, Nat.reduceLeDiff, Nat.reduceSub, Nat.reduceLT, Nat.zero_lt_succ, Int.reduceToNat, Int.reduceAdd, Int.reduceSub, Int.reduceMul, Int.reduceNeg, Int.reduceLT, Int.reduceLE, Int.reduceEq, Int.reduceBEq, Int.reduceBNe, Nat.reduceBEq, List.reduceReplicate, con31_f, g1, g2, hp', Int.toNat_natCast]; first | (with_reducible refine A.h ?_) | (with_reducible refine B.h ?_) | refine And.intro (fun hc => A.h ?_) (fun hc => B.h ?_))
                  | simp only [thenQ_n, thenQ_r, thenQ_e, blockQ_n, blockQ_r, blockQ_e, scopeQ_n, scopeQ_r, scopeQ_e, Nat.reduceEqDiff, reduceIte]
                  | (with_reducible refine And.intro ?_ ?_)
                  | with_reducible intro vr)
                all_goals try (intros; (try simp only [Bool.and_eq_true, Bool.or_eq_true, Bool.not_eq_true', decide_eq_true_eq, decide_eq_false_iff_not, beq_iff_eq, bne_iff_ne, ne_eq, inI64, List.length_append] at *) <;> omega)
                refine ⟨⟨i + 1, n * d, by omega, by omega, hF⟩, by simp only; omega, ?_⟩
                (refine Le.frame ?_; repeat' (first | exact leF_top _ | (with_reducible refine leF_sl ?_ ?_) | (refine leF_upd (LeR.of_eq ?_) ?_))) <;> (try (simp only [go_sem, Int.cast_ofNat_Int, Nat.reduceEqDiff, reduceIte, Nat.reduceAdd, Nat.reduceMul, Nat.reduceLeDiff, Nat.reduceSub, Nat.reduceLT, Nat.zero_lt_succ, Int.reduceToNat, Int.reduceAdd, Int.reduceSub, Int.reduceMul, Int.reduceNeg, Int.reduceLT, Int.reduceLE, Int.reduceEq, Int.reduceBEq, Int.reduceBNe, Nat.reduceBEq, List.reduceReplicate]; try rfl))
            · have g1 : decide ((i : Int) < (l.length : Int)) = false := decide_eq_false (by omega)
              rw [List.drop_eq_nil_of_le hc, prodS] at hF
              subst hF
              repeat' (first
                | with_reducible refine t_seq fun K => ?_
                | with_reducible refine t_block ?_
                | with_reducible refine t_scope ?_
                | with_reducible refine t_label ?_
                | with_reducible refine t_skip ?_
                | with_reducible refine t_exit ?_
                | with_reducible refine t_ret ?_
                | with_reducible refine t_k ?_
                | (with_reducible refine t_gF ?_)
                | ((first | with_reducible refine t_kE ?_ | with_reducible refine t_kD ?_ | with_reducible refine t_gS ?_ | with_reducible refine t_kL ?_ | (with_reducible refine t_kLE ?_ ?_; rotate_left) | with_reducible refine t_region fun K => ?_ | with_reducible refine t_draw (by kernel_rfl) fun K => ?_); simp only [go_sem, Int.cast_ofNat_Int, Nat.reduceEqDiff, reduceIte, Nat.reduceAdd, Nat.reduceMul, Nat.reduceLeDiff, Nat.reduceSub, Nat.reduceLT, Nat.zero_lt_succ, Int.reduceToNat, Int.reduceAdd, Int.reduceSub, Int.reduceMul, Int.reduceNeg, Int.reduceLT, Int.reduceLE, Int.reduceEq, Int.reduceBEq, Int.reduceBNe, Nat.reduceBEq, List.reduceReplicate, con31_f, g1])
                | (with_reducible exact kp_nil)
                | (with_reducible exact Kp.refl _)
                | (with_reducible exact kp_to)
                | (with_reducible refine kp_cons ?_)
                | (with_reducible refine kp_arr ?_)
                | (with_reducible refine kp_app ?_)
                | ((with_reducible refine kp_skip ?_ ?_); rfl)
                | ((with_reducible refine t_cond fun A B => ?_); simp only [go_sem, Int.cast_ofNat_Int, Nat.reduceEqDiff, reduceIte, Nat.reduceAdd, Nat.reduceMul, Nat.reduceLeDiff, Nat.reduceSub, Nat.reduceLT, Nat.zero_lt_succ, Int.reduceToNat, Int.reduceAdd, Int.reduceSub, Int.reduceMul, Int.reduceNeg, Int.reduceLT, Int.reduceLE, Int.reduceEq, Int.reduceBEq, Int.reduceBNe, Nat.reduceBEq, List.reduceReplicate, con31_f, g1]; first | (with_reducible refine A.h ?_) | (with_reducible refine B.h ?_) | refine And.intro (fun hc => A.h ?_) (fun hc => B.h ?_))
                | simp only [thenQ_n, thenQ_r, thenQ_e, blockQ_n, blockQ_r, blockQ_e, scopeQ_n, scopeQ_r, scopeQ_e, Nat.reduceEqDiff, reduceIte]
                | (with_reducible refine And.intro ?_ ?_)
                | with_reducible intro vr)
              refine end_ret rfl ?_
              simp only [fin, go_sem, Int.cast_ofNat_Int, Nat.reduceEqDiff, reduceIte, Nat.reduceAdd, Nat.reduceMul, Nat.reduceLeDiff, Nat.reduceSub, Nat.reduceLT, Nat.zero_lt_succ, Int.reduceToNat, Int.reduceAdd, Int.reduceSub, Int.reduceMul, Int.reduceNeg, Int.reduceLT, Int.reduceLE, Int.reduceEq, Int.reduceBEq, Int.reduceBNe, Nat.reduceBEq, List.reduceReplicate, szV, h0', Bool.false_eq_true]
              exact LeA.refl _
noncomputable def con9 : PCon Tryd.prog where
  f := 9
  c := fun
    | [xl] => match slK .i64 xl with | some l => some (l.length ≤ 1000000, szV (sizeS l)) | _ => none
    | _ => none
  ok := by
    intro args p r hc hp
    split at hc
    · split at hc
      · rename_i hl
        cases hc
        exact PC.weak (size_pc hp) ⟨slK_le hl, trivial⟩
      · cases hc
    · cases hc
  fk := fk9
theorem con9_f : con9.f = 9 := rfl
theorem con9_c {xl : AV} : con9.c [xl] = match slK .i64 xl with | some l => some (l.length ≤ 1000000, szV (sizeS l)) | _ => none := rfl
set_option maxHeartbeats 1000000 in
theorem rsize_pc {l : List Int} (hl : l.length ≤ 1000000) : PC Tryd.prog 10 [.sl false 1 (ints .i64 l)] (szV (sizeS l)) := by
  unfold sizeS
  by_cases h6 : l.length > 6
  · have g0 : decide ((l.length : Int) > 6) = true := decide_eq_true (by omega)
    rw [if_pos h6]
    refine pc_of E0_ok mixed (fun _ => [0, 2, 3, 4, 5, 6, 7, 10, 14, 28, 37, 41, 51]) Tryd.func10 rfl (by kernel_rfl) (Nat.le_of_ble_eq_true rfl) ?_
    simp only [initF_cons, initF_nil, Nat.reduceAdd]
    refine t_name fun KF => ?_
    unfold E0
    repeat' (first
      | with_reducible refine t_seq fun K => ?_
      | with_reducible refine t_block ?_
      | with_reducible refine t_scope ?_
      | with_reducible refine t_label ?_
      | with_reducible refine t_skip ?_
      | with_reducible refine t_exit ?_
      | with_reducible refine t_ret ?_
      | with_reducible refine t_k ?_
      | (with_reducible refine t_gF ?_)
      | ((first | with_reducible refine t_kE ?_ | with_reducible refine t_kD ?_ | with_reducible refine t_gS ?_ | with_reducible refine t_kL ?_ | (with_reducible refine t_kLE ?_ ?_; rotate_left) | with_reducible refine t_region fun K => ?_ | with_reducible refine t_draw (by kernel_rfl) fun K => ?_); simp only [go_sem, Int.cast_ofNat_Int, Nat.reduceEqDiff, reduceIte, Nat.reduceAdd, Nat.reduceMul, Nat.reduceLeDiff, Nat.reduceSub, Nat.reduceLT, Nat.zero_lt_succ, Int.reduceToNat, Int.reduceAdd, Int.reduceSub, Int.reduceMul, Int.reduceNeg, Int.reduceLT, Int.reduceLE, Int.reduceEq, Int.reduceBEq, Int.reduceBNe, Nat.reduceBEq, List.reduceReplicate, g0])
      | (with_reducible exact kp_nil)
      | (with_reducible exact Kp.refl _)
      | (with_reducible exact kp_to)
      | (with_reducible refine kp_cons ?_)
      | (with_reducible refine kp_arr ?_)
      | (with_reducible refine kp_app ?_)
      | ((with_reducible refine kp_skip ?_ ?_); rfl)
      | ((with_reducible refine t_cond fun A B => ?_); simp only [go_sem, Int.cast_ofNat_Int, Nat.reduceEqDiff, reduceIte, Nat.reduceAdd, Nat.reduceMul, Nat.reduceLeDiff, Nat.reduceSub, Nat.reduceLT, Nat.zero_lt_succ, Int.reduceToNat, Int.reduceAdd, Int.reduceSub, Int.reduceMul, Int.reduceNeg, Int.reduceLT, Int.reduceLE, Int.reduceEq, Int.reduceBEq, Int.reduceBNe, Nat.reduceBEq, List.reduceReplicate, g0]; first | (with_reducible refine A.h ?_) | (with_reducible refine B.h ?_) | refine And.intro (fun hc => A.h ?_) (fun hc => B.h ?_))
      | simp only [thenQ_n, thenQ_r, thenQ_e, blockQ_n, blockQ_r, blockQ_e, scopeQ_n, scopeQ_r, scopeQ_e, Nat.reduceEqDiff, reduceIte]
      | (with_reducible refine And.intro ?_ ?_)
      | with_reducible intro vr)
    refine end_ret rfl ?_
    simp only [fin, go_sem, Int.cast_ofNat_Int, Nat.reduceEqDiff, reduceIte, Nat.reduceAdd, Nat.reduceMul, Nat.reduceLeDiff, Nat.reduceSub, Nat.reduceLT, Nat.zero_lt_succ, Int.reduceToNat, Int.reduceAdd, Int.reduceSub, Int.reduceMul, Int.reduceNeg, Int.reduceLT, Int.reduceLE, Int.reduceEq, Int.reduceBEq, Int.reduceBNe, Nat.reduceBEq, List.reduceReplicate, szV]
    exact LeA.refl _
  · have g0 : decide ((l.length : Int) > 6) = false := decide_eq_false (by omega)
    rw [if_neg h6]
    generalize hB : l.any badD = Bb
    generalize hG : prodS l 1 = G
    generalize hZ : (l.any fun d => 0 == d) = Z
    refine pc_of E0_ok mixed (fun _ => [0, 2, 3, 4, 5, 6, 7, 10, 14, 28, 37, 41, 51]) Tryd.func10 rfl (by kernel_rfl) (Nat.le_of_ble_eq_true rfl) ?_
    simp only [initF_cons, initF_nil, Nat.reduceAdd]
    refine t_name fun KF => ?_
    unfold E0
    repeat' (first
      | with_reducible refine t_seq fun K => ?_
      | with_reducible refine t_block ?_
      | with_reducible refine t_scope ?_
      | with_reducible refine t_label ?_
      | with_reducible refine t_skip ?_
      | with_reducible refine t_exit ?_
      | with_reducible refine t_ret ?_
      | with_reducible refine t_k ?_
      | (with_reducible refine t_gF ?_)
      | ((first | with_reducible refine t_kE ?_ | with_reducible refine t_kD ?_ | with_reducible refine t_gS ?_ | with_reducible refine t_kL ?_ | (with_reducible refine t_kLE ?_ ?_; rotate_left) | with_reducible refine t_region fun K => ?_ | with_reducible refine t_draw (by kernel_rfl) fun K => ?_); simp only [go_sem, Int.cast_ofNat_Int, Nat.reduceEqDiff, reduceIte, Nat.reduceAdd, Nat.reduceMul, Nat.reduceLeDiff, Nat.reduceSub, Nat.reduceLT, Nat.zero_lt_succ, Int.reduceToNat, Int.reduceAdd, Int.reduceSub, Int.reduceMul, Int.reduceNeg, Int.reduceLT, Int.reduceLE, Int.reduceEq, Int.reduceBEq, Int.reduceBNe, Nat.reduceBEq, List.reduceReplicate, g0])
      | (with_reducible exact kp_nil)
      | (with_reducible exact Kp.refl _)
      | (with_reducible exact kp_to)
      | (with_reducible refine kp_cons ?_)
      | (with_reducible refine kp_arr ?_)
      | (with_reducible refine kp_app ?_)
      | ((with_reducible refine kp_skip ?_ ?_); rfl)
      | ((with_reducible refine t_cond fun A B => ?_); simp only [go_sem, Int.cast_ofNat_Int, Nat.reduceEqDiff, reduceIte, Nat.reduceAdd, Nat.reduceMul, Nat.reduceLeDiff, Nat.reduceSub, Nat.reduceLT, Nat.zero_lt_succ, Int.reduceToNat, Int.reduceAdd, Int.reduceSub, Int.reduceMul, Int.reduceNeg, Int.reduceLT, Int.reduceLE, Int.reduceEq, Int.reduceBEq, Int.reduceBNe, Nat.reduceBEq, List.reduceReplicate, g0]; first | (with_reducible refine A.h ?_) | (with_reducible refine B.h ?_) | refine And.intro (fun hc => A.h ?_) (fun hc => B.h ?_))
      | simp only [thenQ_n, thenQ_r, thenQ_e, blockQ_n, blockQ_r, blockQ_e, scopeQ_n, scopeQ_r, scopeQ_e, Nat.reduceEqDiff, reduceIte]
      | (with_reducible refine And.intro ?_ ?_)
      | with_reducible intro vr)
    refine t_loop (ι := { i : Nat × Bool // i.1 ≤ l.length ∧ (l.drop i.1).any badD = Bb ∧ (i.2 || (l.drop i.1).any fun d => 0 == d) = Z }) (fun i => ⟨upd (upd (upd topF 5 (.lit (.int .i64 i.1.1))) 4 (.lit (.bool i.1.2))) 0 (.sl false 1 (ints .i64 l)), []⟩) (fun i => l.length - i.1.1) ⟨(0, false), by simp, hB, by simpa using hZ⟩ ?_ ?_
    · skip
      (refine Le.frame ?_; repeat' (first | exact leF_top _ | (with_reducible refine leF_sl ?_ ?_) | (refine leF_upd (LeR.of_eq ?_) ?_))) <;> (try (simp only [go_sem, Int.cast_ofNat_Int, Nat.reduceEqDiff, reduceIte, Nat.reduceAdd, Nat.reduceMul, Nat.reduceLeDiff, Nat.reduceSub, Nat.reduceLT, Nat.zero_lt_succ, Int.reduceToNat, Int.reduceAdd, Int.reduceSub, Int.reduceMul, Int.reduceNeg, Int.reduceLT, Int.reduceLE, Int.reduceEq, Int.reduceBEq, Int.reduceBNe, Nat.reduceBEq, List.reduceReplicate]; try rfl))
    · rintro ⟨⟨i, z⟩, hi, hF, hY⟩ K0
      simp only at hi hF hY
      rcases Nat.lt_or_ge i l.length with hc | hc
      · have g1 : decide ((i : Int) < (l.length : Int)) = true := decide_eq_true (by omega)
        have g2 := ints_getD .i64 l i hc
        rw [drop_getD 0 hc, List.any_cons] at hF
        rw [drop_getD 0 hc, List.any_cons, ← Bool.or_assoc] at hY
        generalize l.getD i 0 = d at g2 hF hY
        rw [show badD d = (decide (d < 0) || decide (d > 4096)) from rfl] at hF
        by_cases d1 : d < 0
        · have d1' : decide (d < 0) = true := decide_eq_true d1
          have : Bb = true := by rw [← hF, d1']; rfl
          subst this
          repeat' (first
            | with_reducible refine t_seq fun K => ?_
            | with_reducible refine t_block ?_
            | with_reducible refine t_scope ?_
            | with_reducible refine t_label ?_
            | with_reducible refine t_skip ?_
            | with_reducible refine t_exit ?_
            | with_reducible refine t_ret ?_
            | with_reducible refine t_k ?_
            | (with_reducible refine t_gF ?_)
            | ((first | with_reducible refine t_kE ?_ | with_reducible refine t_kD ?_ | with_reducible refine t_gS ?_ | with_reducible refine t_kL ?_ | (with_reducible refine t_kLE ?_ ?_; rotate_left) | with_reducible refine t_region fun K => ?_ | with_reducible refine t_draw (by kernel_rfl) fun K => ?_); simp only [go_sem, Int.cast_ofNat_Int, Nat.reduceEqDiff, reduceIte, Nat.reduceAdd, Nat.reduceMul, Nat.reduceLeDiff, Nat.reduceSub, Nat.reduceLT, Nat.zero_lt_succ, Int.reduceToNat, Int.reduceAdd, Int.reduceSub, Int.reduceMul, Int.reduceNeg, Int.reduceLT, Int.reduceLE, Int.reduceEq, Int.reduceBEq, Int.reduceBNe, Nat.reduceBEq, List.reduceReplicate, g1, g2, d1', Int.toNat_natCast])
            | (with_reducible exact kp_nil)
            | (with_reducible exact Kp.refl _)
            | (with_reducible exact kp_to)
            | (with_reducible refine kp_cons ?_)
            | (with_reducible refine kp_arr ?_)
            | (with_reducible refine kp_app ?_)
            | ((with_reducible refine kp_skip ?_ ?_); rfl)
            | ((with_reducible refine t_cond fun A B => ?_); simp only [go_sem, Int.cast_ofNat_Int, Nat.reduceEqDiff, reduceIte, Nat.reduceAdd, Nat.reduceMul, Nat.reduceLeDiff, Nat.reduceSub, Nat.reduceLT, Nat.zero_lt_succ, Int.reduceToNat, Int.reduceAdd, Int.reduceSub, Int.reduceMul, Int.reduceNeg, Int.reduceLT, Int.reduceLE, Int.reduceEq, Int.reduceBEq, Int.reduceBNe, Nat.reduceBEq, List.reduceReplicate, g1, g2, d1', Int.toNat_natCast]; first | (with_reducible refine A.h ?_) | (with_reducible refine B.h ?_) | refine And.intro (fun hc => A.h ?_) (fun hc => B.h ?_))
            | simp only [thenQ_n, thenQ_r, thenQ_e, blockQ_n, blockQ_r, blockQ_e, scopeQ_n, scopeQ_r, scopeQ_e, Nat.reduceEqDiff, reduceIte]
            | (with_reducible refine And.intro ?_ ?_)
            | with_reducible intro vr)
          all_goals try (intros; (try simp only [Bool.and_eq_true, Bool.or_eq_true, Bool.not_eq_true', decide_eq_true_eq, decide_eq_false_iff_not, beq_iff_eq, bne_iff_ne, ne_eq, inI64, List.length_append] at *) <;> omega)
          refine end_ret rfl ?_
          simp only [fin, go_sem, Int.cast_ofNat_Int, Nat.reduceEqDiff, reduceIte, Nat.reduceAdd, Nat.reduceMul, Nat.reduceLeDiff, Nat.reduceSub, Nat.reduceLT, Nat.zero_lt_succ, Int.reduceToNat, Int.reduceAdd, Int.reduceSub, Int.reduceMul, Int.reduceNeg, Int.reduceLT, Int.reduceLE, Int.reduceEq, Int.reduceBEq, Int.reduceBNe, Nat.reduceBEq, List.reduceReplicate, szV]
          exact LeA.refl _
        · have d1' : decide (d < 0) = false := decide_eq_false d1
          by_cases d2 : d > 4096
          · have d2' : decide (d > 4096) = true := decide_eq_true d2
            have : Bb = true := by rw [← hF, d1', d2']; rfl
            subst this
            repeat' (first
              | with_reducible refine t_seq fun K => ?_
              | with_reducible refine t_block ?_
              | with_reducible refine t_scope ?_
              | with_reducible refine t_label ?_
              | with_reducible refine t_skip ?_
              | with_reducible refine t_exit ?_
              | with_reducible refine t_ret ?_
              | with_reducible refine t_k ?_
              | (with_reducible refine t_gF ?_)
              | ((first | with_reducible refine t_kE ?_ | with_reducible refine t_kD ?_ | with_reducible refine t_gS ?_ | with_reducible refine t_kL ?_ | (with_reducible refine t_kLE ?_ ?_; rotate_left) | with_reducible refine t_region fun K => ?_ | with_reducible refine t_draw (by kernel_rfl) fun K => ?_); simp only [go_sem, Int.cast_ofNat_Int, Nat.reduceEqDiff, reduceIte, Nat.reduceAdd, Nat.reduceMul, Nat.reduceLeDiff, Nat.reduceSub, Nat.reduceLT, Nat.zero_lt_succ, Int.reduceToNat, Int.reduceAdd, Int.reduceSub, Int.reduceMul, Int.reduceNeg, Int.reduceLT, Int.reduceLE, Int.reduceEq, Int.reduceBEq, Int.reduceBNe, Nat.reduceBEq, List.reduceReplicate, g1, g2, d1', d2', Int.toNat_natCast])
              | (with_reducible exact kp_nil)
              | (with_reducible exact Kp.refl _)
              | (with_reducible exact kp_to)
              | (with_reducible refine kp_cons ?_)
              | (with_reducible refine kp_arr ?_)
              | (with_reducible refine kp_app ?_)
              | ((with_reducible refine kp_skip ?_ ?_); rfl)
              | ((with_reducible refine t_cond fun A B => ?_); simp only [go_sem, Int.cast_ofNat_Int, Nat.reduceEqDiff, reduceIte, Nat.reduceAdd, Nat.reduceMul, Nat.reduceLeDiff, Nat.reduceSub, Nat.reduceLT, Nat.zero_lt_succ, Int.reduceToNat, Int.reduceAdd, Int.reduceSub, Int.reduceMul, Int.reduceNeg, Int.reduceLT, Int.reduceLE, Int.reduceEq, Int.reduceBEq, Int.reduceBNe, Nat.reduceBEq, List.reduceReplicate, g1, g2, d1', d2', Int.toNat_natCast]; first | (with_reducible refine A.h ?_) | (with_reducible refine B.h ?_) | refine And.intro (fun hc => A.h ?_) (fun hc => B.h ?_))
              | simp only [thenQ_n, thenQ_r, thenQ_e, blockQ_n, blockQ_r, blockQ_e, scopeQ_n, scopeQ_r, scopeQ_e, Nat.reduceEqDiff, reduceIte]
              | (with_reducible refine And.intro ?_ ?_)
              | with_reducible intro vr)
            all_goals try (intros; (try simp only [Bool.and_eq_true, Bool.or_eq_true, Bool.not_eq_true', decide_eq_true_eq, decide_eq_false_iff_not, beq_iff_eq, bne_iff_ne, ne_eq, inI64, List.length_append] at *) <;> omega)
            refine end_ret rfl ?_
            simp only [fin, go_sem, Int.cast_ofNat_Int, Nat.reduceEqDiff, reduceIte, Nat.reduceAdd, Nat.reduceMul, Nat.reduceLeDiff, Nat.reduceSub, Nat.reduceLT, Nat.zero_lt_succ, Int.reduceToNat, Int.reduceAdd, Int.reduceSub, Int.reduceMul, Int.reduceNeg, Int.reduceLT, Int.reduceLE, Int.reduceEq, Int.reduceBEq, Int.reduceBNe, Nat.reduceBEq, List.reduceReplicate, szV]
            exact LeA.refl _
          · have d2' : decide (d > 4096) = false := decide_eq_false d2
            rw [d1', d2', Bool.false_or, Bool.false_or] at hF
            cases z
            · by_cases e0 : (d == 0) = true
              · have e1 : (0 == d) = true := by rw [beq_iff_eq] at e0 ⊢; exact e0.symm
                rw [e1] at hY
                repeat' (first
                  | with_reducible refine t_seq fun K => ?_
                  | with_reducible refine t_block ?_
                  | with_reducible refine t_scope ?_
                  | with_reducible refine t_label ?_
                  | with_reducible refine t_skip ?_
                  | with_reducible refine t_exit ?_
                  | with_reducible refine t_ret ?_
                  | with_reducible refine t_k ?_
                  | (with_reducible refine t_gF ?_)
                  | ((first | with_reducible refine t_kE ?_ | with_reducible refine t_kD ?_ | with_reducible refine t_gS ?_ | with_reducible refine t_kL ?_ | (with_reducible refine t_kLE ?_ ?_; rotate_left) | with_reducible refine t_region fun K => ?_ | with_reducible refine t_draw (by kernel_rfl) fun K => ?_); simp only [go_sem, Int.cast_ofNat_Int, Nat.reduceEqDiff, reduceIte, Nat.reduceAdd, Nat.reduceMul, Nat.reduceLeDiff, Nat.reduceSub, Nat.reduceLT, Nat.zero_lt_succ, Int.reduceToNat, Int.reduceAdd, Int.reduceSub, Int.reduceMul, Int.reduceNeg, Int.reduceLT, Int.reduceLE, Int.reduceEq, Int.reduceBEq, Int.reduceBNe, Nat.reduceBEq, List.reduceReplicate, g1, g2, d1', d2', e0, Int.toNat_natCast])
                  | (with_reducible exact kp_nil)
                  | (with_reducible exact Kp.refl _)
                  | (with_reducible exact kp_to)
                  | (with_reducible refine kp_cons ?_)
                  | (with_reducible refine kp_arr ?_)
                  | (with_reducible refine kp_app ?_)
                  | ((with_reducible refine kp_skip ?_ ?_); rfl)
                  | ((with_reducible refine t_cond fun A B => ?_); simp only [go_sem, Int.cast_ofNat_Int, Nat.reduceEqDiff, reduceIte, Nat.reduceAdd, Nat.reduceMul, Nat.reduceLeDiff, Nat.reduceSub, Nat.reduceLT, Nat.zero_lt_succ, Int.reduceToNat, Int.reduceAdd, Int.reduceSub, Int.reduceMul, Int.reduceNeg, Int.reduceLT, Int.reduceLE, Int.reduceEq, Int.reduceBEq, Int.reduceBNe, Nat.reduceBEq, List.reduceReplicate, g1, g2, d1', d2', e0, Int.toNat_natCast]; first | (with_reducible refine A.h ?_) | (with_reducible refine B.h ?_) | refine And.intro (fun hc => A.h ?_) (fun hc => B.h ?_))
                  | simp only [thenQ_n, thenQ_r, thenQ_e, blockQ_n, blockQ_r, blockQ_e, scopeQ_n, scopeQ_r, scopeQ_e, Nat.reduceEqDiff, reduceIte]
                  | (with_reducible refine And.intro ?_ ?_)
                  | with_reducible intro vr)
                all_goals try (intros; (try simp only [Bool.and_eq_true, Bool.or_eq_true, Bool.not_eq_true', decide_eq_true_eq, decide_eq_false_iff_not, beq_iff_eq, bne_iff_ne, ne_eq, inI64, List.length_append] at *) <;> omega)
                refine ⟨⟨(i + 1, true), by simp only; omega, hF, hY⟩, by simp only; omega, ?_⟩
                (refine Le.frame ?_; repeat' (first | exact leF_top _ | (with_reducible refine leF_sl ?_ ?_) | (refine leF_upd (LeR.of_eq ?_) ?_))) <;> (try (simp only [go_sem, Int.cast_ofNat_Int, Nat.reduceEqDiff, reduceIte, Nat.reduceAdd, Nat.reduceMul, Nat.reduceLeDiff, Nat.reduceSub, Nat.reduceLT, Nat.zero_lt_succ, Int.reduceToNat, Int.reduceAdd, Int.reduceSub, Int.reduceMul, Int.reduceNeg, Int.reduceLT, Int.reduceLE, Int.reduceEq, Int.reduceBEq, Int.reduceBNe, Nat.reduceBEq, List.reduceReplicate]; try rfl))
              · have e0' : (d == 0) = false := by simpa using e0
                have e1 : (0 == d) = false := by rw [beq_eq_false_iff_ne] at e0' ⊢; exact fun h => e0' h.symm
                rw [e1] at hY
                repeat' (first
                  | with_reducible refine t_seq fun K => ?_
                  | with_reducible refine t_block ?_
                  | with_reducible refine t_scope ?_
                  | with_reducible refine t_label ?_
                  | with_reducible refine t_skip ?_
                  | with_reducible refine t_exit ?_
                  | with_reducible refine t_ret ?_
                  | with_reducible refine t_k ?_
                  | (with_reducible refine t_gF ?_)
                  | ((first | with_reducible refine t_kE ?_ | with_reducible refine t_kD ?_ | with_reducible refine t_gS ?_ | with_reducible refine t_kL ?_ | (with_reducible refine t_kLE ?_ ?_; rotate_left) | with_reducible refine t_region fun K => ?_ | with_reducible refine t_draw (by kernel_rfl) fun K => ?_); simp only [go_sem, Int.cast_ofNat_Int, Nat.reduceEqDiff, reduceIte, Nat.reduceAdd, Nat.reduceMul, Nat.reduceLeDiff, Nat.reduceSub, Nat.reduceLT, Nat.zero_lt_succ, Int.reduceToNat, Int.reduceAdd, Int.reduceSub, Int.reduceMul, Int.reduceNeg, Int.reduceLT, Int.reduceLE, Int.reduceEq, Int.reduceBEq, Int.reduceBNe, Nat.reduceBEq, List.reduceReplicate, g1, g2, d1', d2', e0', Int.toNat_natCast])
                  | (with_reducible exact kp_nil)
                  | (with_reducible exact Kp.refl _)
                  | (with_reducible exact kp_to)
                  | (with_reducible refine kp_cons ?_)
                  | (with_reducible refine kp_arr ?_)
                  | (with_reducible refine kp_app ?_)
                  | ((with_reducible refine kp_skip ?_ ?_); rfl)
                  | ((with_reducible refine t_cond fun A B => ?_); simp only [go_sem, Int.cast_ofNat_Int, Nat.reduceEqDiff, reduceIte, Nat.reduceAdd, Nat.reduceMul, Nat.reduceLeDiff, Nat.reduceSub, Nat.reduceLT, Nat.zero_lt_succ, Int.reduceToNat, Int.reduceAdd, Int.reduceSub, Int.reduceMul, Int.reduceNeg, Int.reduceLT, Int.reduceLE, Int.reduceEq, Int.reduceBEq, Int.reduceBNe, Nat.reduceBEq, List.reduceReplicate, g1, g2, d1', d2', e0', Int.toNat_natCast]; first | (with_reducible refine A.h ?_) | (with_reducible refine B.h ?_) | refine And.intro (fun hc => A.h ?_) (fun hc => B.h ?_))
                  | simp only [thenQ_n, thenQ_r, thenQ_e, blockQ_n, blockQ_r, blockQ_e, scopeQ_n, scopeQ_r, scopeQ_e, Nat.reduceEqDiff, reduceIte]
                  | (with_reducible refine And.intro ?_ ?_)
                  | with_reducible intro vr)
                all_goals try (intros; (try simp only [Bool.and_eq_true, Bool.or_eq_true, Bool.not_eq_true', decide_eq_true_eq, decide_eq_false_iff_not, beq_iff_eq, bne_iff_ne, ne_eq, inI64, List.length_append] at *) <;> omega)
                refine ⟨⟨(i + 1, false), by simp only; omega, hF, hY⟩, by simp only; omega, ?_⟩
                (refine Le.frame ?_; repeat' (first | exact leF_top _ | (with_reducible refine leF_sl ?_ ?_) | (refine leF_upd (LeR.of_eq ?_) ?_))) <;> (try (simp only [go_sem, Int.cast_ofNat_Int, Nat.reduceEqDiff, reduceIte, Nat.reduceAdd, Nat.reduceMul, Nat.reduceLeDiff, Nat.reduceSub, Nat.reduceLT, Nat.zero_lt_succ, Int.reduceToNat, Int.reduceAdd, Int.reduceSub, Int.reduceMul, Int.reduceNeg, Int.reduceLT, Int.reduceLE, Int.reduceEq, Int.reduceBEq, Int.reduceBNe, Nat.reduceBEq, List.reduceReplicate]; try rfl))
            · skip
              repeat' (first
                | with_reducible refine t_seq fun K => ?_
                | with_reducible refine t_block ?_
                | with_reducible refine t_scope ?_
                | with_reducible refine t_label ?_
                | with_reducible refine t_skip ?_
                | with_reducible refine t_exit ?_
                | with_reducible refine t_ret ?_
                | with_reducible refine t_k ?_
                | (with_reducible refine t_gF ?_)
                | ((first | with_reducible refine t_kE ?_ | with_reducible refine t_kD ?_ | with_reducible refine t_gS ?_ | with_reducible refine t_kL ?_ | (with_reducible refine t_kLE ?_ ?_; rotate_left) | with_reducible refine t_region fun K => ?_ | with_reducible refine t_draw (by kernel_rfl) fun K => ?_); simp only [go_sem, Int.cast_ofNat_Int, Nat.reduceEqDiff, reduceIte, Nat.reduceAdd, Nat.reduceMul, Nat.reduceLeDiff, Nat.reduceSub, Nat.reduceLT, Nat.zero_lt_succ, Int.reduceToNat, Int.reduceAdd, Int.reduceSub, Int.reduceMul, Int.reduceNeg, Int.reduceLT, Int.reduceLE, Int.reduceEq, Int.reduceBEq, Int.reduceBNe, Nat.reduceBEq, List.reduceReplicate, g1, g2, d1', d2', Int.toNat_natCast])
                | (with_reducible exact kp_nil)
                | (with_reducible exact Kp.refl _)
                | (with_reducible exact kp_to)
                | (with_reducible refine kp_cons ?_)
                | (with_reducible refine kp_arr ?_)
                | (with_reducible refine kp_app ?_)
                | ((with_reducible refine kp_skip ?_ ?_); rfl)
                | ((with_reducible refine t_cond fun A B => ?_); simp only [go_sem, Int.cast_ofNat_Int, Nat.reduceEqDiff, reduceIte, Nat.reduceAdd, Nat.reduceMul, Nat.reduceLeDiff, Nat.reduceSub, Nat.reduceLT, Nat.zero_lt_succ, Int.reduceToNat, Int.reduceAdd, Int.reduceSub, Int.reduceMul, Int.reduceNeg, Int.reduceLT, Int.reduceLE, Int.reduceEq, Int.reduceBEq, Int.reduceBNe, Nat.reduceBEq, List.reduceReplicate, g1, g2, d1', d2', Int.toNat_natCast]; first | (with_reducible refine A.h ?_) | (with_reducible refine B.h ?_) | refine And.intro (fun hc => A.h ?_) (fun hc => B.h ?_))
                | simp only [thenQ_n, thenQ_r, thenQ_e, blockQ_n, blockQ_r, blockQ_e, scopeQ_n, scopeQ_r, scopeQ_e, Nat.reduceEqDiff, reduceIte]
                | (with_reducible refine And.intro ?_ ?_)
                | with_reducible intro vr)
              all_goals try (intros; (try simp only [Bool.and_eq_true, Bool.or_eq_true, Bool.not_eq_true', decide_eq_true_eq, decide_eq_false_iff_not, beq_iff_eq, bne_iff_ne, ne_eq, inI64, List.length_append] at *) <;> omega)
              refine ⟨⟨(i + 1, true), by simp only; omega, hF, by rw [← hY]; simp⟩, by simp only; omega, ?_⟩
              (refine Le.frame ?_; repeat' (first | exact leF_top _ | (with_reducible refine leF_sl ?_ ?_) | (refine leF_upd (LeR.of_eq ?_) ?_))) <;> (try (simp only [go_sem, Int.cast_ofNat_Int, Nat.reduceEqDiff, reduceIte, Nat.reduceAdd, Nat.reduceMul, Nat.reduceLeDiff, Nat.reduceSub, Nat.reduceLT, Nat.zero_lt_succ, Int.reduceToNat, Int.reduceAdd, Int.reduceSub, Int.reduceMul, Int.reduceNeg, Int.reduceLT, Int.reduceLE, Int.reduceEq, Int.reduceBEq, Int.reduceBNe, Nat.reduceBEq, List.reduceReplicate]; try rfl))
      · have g1 : decide ((i : Int) < (l.length : Int)) = false := decide_eq_false (by omega)
        rw [List.drop_eq_nil_of_le hc, List.any_nil] at hF
        rw [List.drop_eq_nil_of_le hc, List.any_nil, Bool.or_false] at hY
        subst hF
        have hd := bad_no (by rw [hB]; simp)
        cases z
        · subst hY
          repeat' (first
            | with_reducible refine t_seq fun K => ?_
            | with_reducible refine t_block ?_
            | with_reducible refine t_scope ?_
            | with_reducible refine t_label ?_
            | with_reducible refine t_skip ?_
            | with_reducible refine t_exit ?_
            | with_reducible refine t_ret ?_
            | with_reducible refine t_k ?_
            | (with_reducible refine t_gF ?_)
            | ((first | with_reducible refine t_kE ?_ | with_reducible refine t_kD ?_ | with_reducible refine t_gS ?_ | with_reducible refine t_kL ?_ | (with_reducible refine t_kLE ?_ ?_; rotate_left) | with_reducible refine t_region fun K => ?_ | with_reducible refine t_draw (by kernel_rfl) fun K => ?_); simp only [go_sem, Int.cast_ofNat_Int, Nat.reduceEqDiff, reduceIte, Nat.reduceAdd, Nat.reduceMul, Nat.reduceLeDiff, Nat.reduceSub, Nat.reduceLT, Nat.zero_lt_succ, Int.reduceToNat, Int.reduceAdd, Int.reduceSub, Int.reduceMul, Int.reduceNeg, Int.reduceLT, Int.reduceLE, Int.reduceEq, Int.reduceBEq, Int.reduceBNe, Nat.reduceBEq, List.reduceReplicate, g1])
            | (with_reducible exact kp_nil)
            | (with_reducible exact Kp.refl _)
            | (with_reducible exact kp_to)
            | (with_reducible refine kp_cons ?_)
            | (with_reducible refine kp_arr ?_)
            | (with_reducible refine kp_app ?_)
            | ((with_reducible refine kp_skip ?_ ?_); rfl)
            | ((with_reducible refine t_cond fun A B => ?_); simp only [go_sem, Int.cast_ofNat_Int, Nat.reduceEqDiff, reduceIte, Nat.reduceAdd, Nat.reduceMul, Nat.reduceLeDiff, Nat.reduceSub, Nat.reduceLT, Nat.zero_lt_succ, Int.reduceToNat, Int.reduceAdd, Int.reduceSub, Int.reduceMul, Int.reduceNeg, Int.reduceLT, Int.reduceLE, Int.reduceEq, Int.reduceBEq, Int.reduceBNe, Nat.reduceBEq, List.reduceReplicate, g1]; first | (with_reducible refine A.h ?_) | (with_reducible refine B.h ?_) | refine And.intro (fun hc => A.h ?_) (fun hc => B.h ?_))
            | simp only [thenQ_n, thenQ_r, thenQ_e, blockQ_n, blockQ_r, blockQ_e, scopeQ_n, scopeQ_r, scopeQ_e, Nat.reduceEqDiff, reduceIte]
            | (with_reducible refine And.intro ?_ ?_)
            | with_reducible intro vr)
          refine t_loop (ι := Ls l G) (fun i => ⟨upd (upd (upd topF 7 (.lit (.int .i64 i.i))) 6 (.lit (.int .i64 i.n))) 0 (.sl false 1 (ints .i64 l)), []⟩) (fun i => l.length - i.i) ⟨0, 1, by omega, by omega, hG⟩ ?_ ?_
          · skip
            (refine Le.frame ?_; repeat' (first | exact leF_top _ | (with_reducible refine leF_sl ?_ ?_) | (refine leF_upd (LeR.of_eq ?_) ?_))) <;> (try (simp only [go_sem, Int.cast_ofNat_Int, Nat.reduceEqDiff, reduceIte, Nat.reduceAdd, Nat.reduceMul, Nat.reduceLeDiff, Nat.reduceSub, Nat.reduceLT, Nat.zero_lt_succ, Int.reduceToNat, Int.reduceAdd, Int.reduceSub, Int.reduceMul, Int.reduceNeg, Int.reduceLT, Int.reduceLE, Int.reduceEq, Int.reduceBEq, Int.reduceBNe, Nat.reduceBEq, List.reduceReplicate]; try rfl))
          · rintro ⟨i, n, hi, hn, hF⟩ K1
            rcases Nat.lt_or_ge i l.length with hc | hc
            · have g1 : decide ((i : Int) < (l.length : Int)) = true := decide_eq_true (by omega)
              have g2 := ints_getD .i64 l i hc
              have hd' := hd (l.getD i 0) (by rw [List.getD_eq_getElem?_getD, List.getElem?_eq_getElem hc]; exact List.getElem_mem _)
              rw [drop_getD 0 hc, prodS] at hF
              generalize l.getD i 0 = d at g2 hF hd'
              have hb := mul_bd hn hd'
              by_cases hp : n * d > 4096
              · have hp' : decide (n * d > 4096) = true := decide_eq_true hp
                rw [if_pos hp] at hF
                subst hF
                repeat' (first
                  | with_reducible refine t_seq fun K => ?_
                  | with_reducible refine t_block ?_
                  | with_reducible refine t_scope ?_
                  | with_reducible refine t_label ?_
                  | with_reducible refine t_skip ?_
                  | with_reducible refine t_exit ?_
                  | with_reducible refine t_ret ?_
                  | with_reducible refine t_k ?_
                  | (with_reducible refine t_gF ?_)
                  | ((first | with_reducible refine t_kE ?_ | with_reducible refine t_kD ?_ | with_reducible refine t_gS ?_ | with_reducible refine t_kL ?_ | (with_reducible refine t_kLE ?_ ?_; rotate_left) | with_reducible refine t_region fun K => ?_ | with_reducible refine t_draw (by kernel_rfl) fun K => ?_); simp only [go_sem, Int.cast_ofNat_Int, Nat.reduceEqDiff, reduceIte, Nat.reduceAdd, Nat.reduceMul, Nat.reduceLeDiff, Nat.reduceSub, Nat.reduceLT, Nat.zero_lt_succ, Int.reduceToNat, Int.reduceAdd, Int.reduceSub, Int.reduceMul, Int.reduceNeg, Int.reduceLT, Int.reduceLE, Int.reduceEq, Int.reduceBEq, Int.reduceBNe, Nat.reduceBEq, List.reduceReplicate, g1, g2, hp', Int.toNat_natCast])
                  | (with_reducible exact kp_nil)
                  | (with_reducible exact Kp.refl _)
                  | (with_reducible exact kp_to)
                  | (with_reducible refine kp_cons ?_)
                  | (with_reducible refine kp_arr ?_)
                  | (with_reducible refine kp_app ?_)
                  | ((with_reducible refine kp_skip ?_ ?_); rfl)
                  | ((with_reducible refine t_cond fun A B => ?_); simp only [go_sem, Int.cast_ofNat_Int, Nat.reduceEqDiff, reduceIte, Nat.reduceAdd, Nat.reduceMul, Nat.reduceLeDiff, Nat.reduceSub, Nat.reduceLT, Nat.zero_lt_succ, Int.reduceToNat, Int.reduceAdd, Int.reduceSub, Int.reduceMul, Int.reduceNeg, Int.reduceLT, Int.reduceLE, Int.reduceEq, Int.reduceBEq, Int.reduceBNe, Nat.reduceBEq, List.reduceReplicate, g1, g2, hp', Int.toNat_natCast]; first | (with_reducible refine A.h ?_) | (with_reducible refine B.h ?_) | refine And.intro (fun hc => A.h ?_) (fun hc => B.h ?_))
                  | simp only [thenQ_n, thenQ_r, thenQ_e, blockQ_n, blockQ_r, blockQ_e, scopeQ_n, scopeQ_r, scopeQ_e, Nat.reduceEqDiff, reduceIte]
                  | (with_reducible refine And.intro ?_ ?_)
                  | with_reducible intro vr)
                all_goals try (intros; (try simp only [Bool.and_eq_true, Bool.or_eq_true, Bool.not_eq_true', decide_eq_true_eq, decide_eq_false_iff_not, beq_iff_eq, bne_iff_ne, ne_eq, inI64, List.length_append] at *) <;> omega)
                refine end_ret rfl ?_
                simp only [fin, go_sem, Int.cast_ofNat_Int, Nat.reduceEqDiff, reduceIte, Nat.reduceAdd, Nat.reduceMul, Nat.reduceLeDiff, Nat.reduceSub, Nat.reduceLT, Nat.zero_lt_succ, Int.reduceToNat, Int.reduceAdd, Int.reduceSub, Int.reduceMul, Int.reduceNeg, Int.reduceLT, Int.reduceLE, Int.reduceEq, Int.reduceBEq, Int.reduceBNe, Nat.reduceBEq, List.reduceReplicate, szV, Bool.false_eq_true]
                exact LeA.refl _
              · have hp' : decide (n * d > 4096) = false := decide_eq_false hp
                rw [if_neg hp] at hF
                repeat' (first
                  | with_reducible refine t_seq fun K => ?_
                  | with_reducible refine t_block ?_
                  | with_reducible refine t_scope ?_
                  | with_reducible refine t_label ?_
                  | with_reducible refine t_skip ?_
                  | with_reducible refine t_exit ?_
                  | with_reducible refine t_ret ?_
                  | with_reducible refine t_k ?_
                  | (with_reducible refine t_gF ?_)
                  | ((first | with_reducible refine t_kE ?_ | with_reducible refine t_kD ?_ | with_reducible refine t_gS ?_ | with_reducible refine t_kL ?_ | (with_reducible refine t_kLE ?_ ?_; rotate_left) | with_reducible refine t_region fun K => ?_ | with_reducible refine t_draw (by kernel_rfl) fun K => ?_); simp only [go_sem, Int.cast_ofNat_Int, Nat.reduceEqDiff, reduceIte, Nat.reduceAdd, Nat.reduceMul, Nat.reduceLeDiff, Nat.reduceSub, Nat.reduceLT, Nat.zero_lt_succ, Int.reduceToNat, Int.reduceAdd, Int.reduceSub, Int.reduceMul, Int.reduceNeg, Int.reduceLT, Int.reduceLE, Int.reduceEq, Int.reduceBEq, Int.reduceBNe, Nat.reduceBEq, List.reduceReplicate, g1, g2, hp', Int.toNat_natCast])
                  | (with_reducible exact kp_nil)
                  | (with_reducible exact Kp.refl _)
                  | (with_reducible exact kp_to)
                  | (with_reducible refine kp_cons ?_)
                  | (with_reducible refine kp_arr ?_)
                  | (with_reducible refine kp_app ?_)
                  | ((with_reducible refine kp_skip ?_ ?_); rfl)
                  | ((with_reducible refine t_cond fun A B => ?_); simp only [go_sem, Int.cast_ofNat_Int, Nat.reduceEqDiff, reduceIte, Nat.reduceAdd, Nat.reduceMul, Nat.reduceLeDiff, Nat.reduceSub, Nat.reduceLT, Nat.zero_lt_succ, Int.reduceToNat, Int.reduceAdd, Int.reduceSub, Int.reduceMul, Int.reduceNeg, Int.reduceLT, Int.reduceLE, Int.reduceEq, Int.reduceBEq, Int.reduceBNe, Nat.reduceBEq, List.reduceReplicate, g1, g2, hp', Int.toNat_natCast]; first | (with_reducible refine A.h ?_) | (with_reducible refine B.h ?_) | refine And.intro (fun hc => A.h ?_) (fun hc => B.h ?_))
                  | simp only [thenQ_n, thenQ_r, thenQ_e, blockQ_n, blockQ_r, blockQ_e, scopeQ_n, scopeQ_r, scopeQ_e, Nat.reduceEqDiff, reduceIte]
                  | (with_reducible refine And.intro ?_ ?_)
                  | with_reducible intro vr)
                all_goals try (intros; (try simp only [Bool.and_eq_true, Bool.or_eq_true, Bool.not_eq_true', decide_eq_true_eq, decide_eq_false_iff_not, beq_iff_eq, bne_iff_ne, ne_eq, inI64, List.length_append] at *) <;> omega)
                refine ⟨⟨i + 1, n * d, by omega, by omega, hF⟩, by simp only; omega, ?_⟩
                (refine Le.frame ?_; repeat' (first | exact leF_top _ | (with_reducible refine leF_sl ?_ ?_) | (refine leF_upd (LeR.of_eq ?_) ?_))) <;> (try (simp only [go_sem, Int.cast_ofNat_Int, Nat.reduceEqDiff, reduceIte, Nat.reduceAdd, Nat.reduceMul, Nat.reduceLeDiff, Nat.reduceSub, Nat.reduceLT, Nat.zero_lt_succ, Int.reduceToNat, Int.reduceAdd, Int.reduceSub, Int.reduceMul, Int.reduceNeg, Int.reduceLT, Int.reduceLE, Int.reduceEq, Int.reduceBEq, Int.reduceBNe, Nat.reduceBEq, List.reduceReplicate]; try rfl))
            · have g1 : decide ((i : Int) < (l.length : Int)) = false := decide_eq_false (by omega)
              rw [List.drop_eq_nil_of_le hc, prodS] at hF
              subst hF
              repeat' (first
                | with_reducible refine t_seq fun K => ?_
                | with_reducible refine t_block ?_
                | with_reducible refine t_scope ?_
                | with_reducible refine t_label ?_
                | with_reducible refine t_skip ?_
                | with_reducible refine t_exit ?_
                | with_reducible refine t_ret ?_
                | with_reducible refine t_k ?_
                | (with_reducible refine t_gF ?_)
                | ((first | with_reducible refine t_kE ?_ | with_reducible refine t_kD ?_ | with_reducible refine t_gS ?_ | with_reducible refine t_kL ?_ | (with_reducible refine t_kLE ?_ ?_; rotate_left) | with_reducible refine t_region fun K => ?_ | with_reducible refine t_draw (by kernel_rfl) fun K => ?_); simp only [go_sem, Int.cast_ofNat_Int, Nat.reduceEqDiff, reduceIte, Nat.reduceAdd, Nat.reduceMul, Nat.reduceLeDiff, Nat.reduceSub, Nat.reduceLT, Nat.zero_lt_succ, Int.reduceToNat, Int.reduceAdd, Int.reduceSub, Int.reduceMul, Int.reduceNeg, Int.reduceLT, Int.reduceLE, Int.reduceEq, Int.reduceBEq, Int.reduceBNe, Nat.reduceBEq, List.reduceReplicate, g1])
                | (with_reducible exact kp_nil)
                | (with_reducible exact Kp.refl _)
                | (with_reducible exact kp_to)
                | (with_reducible refine kp_cons ?_)
                | (with_reducible refine kp_arr ?_)
                | (with_reducible refine kp_app ?_)
                | ((with_reducible refine kp_skip ?_ ?_); rfl)
                | ((with_reducible refine t_cond fun A B => ?_); simp only [go_sem, Int.cast_ofNat_Int, Nat.reduceEqDiff, reduceIte, Nat.reduceAdd, Nat.reduceMul, Nat.reduceLeDiff, Nat.reduceSub, Nat.reduceLT, Nat.zero_lt_succ, Int.reduceToNat, Int.reduceAdd, Int.reduceSub, Int.reduceMul, Int.reduceNeg, Int.reduceLT, Int.reduceLE, Int.reduceEq, Int.reduceBEq, Int.reduceBNe, Nat.reduceBEq, List.reduceReplicate, g1]; first | (with_reducible refine A.h ?_) | (with_reducible refine B.h ?_) | refine And.intro (fun hc => A.h ?_) (fun hc => B.h ?_))
                | simp only [thenQ_n, thenQ_r, thenQ_e, blockQ_n, blockQ_r, blockQ_e, scopeQ_n, scopeQ_r, scopeQ_e, Nat.reduceEqDiff, reduceIte]
                | (with_reducible refine And.intro ?_ ?_)
                | with_reducible intro vr)
              refine end_ret rfl ?_
              simp only [fin, go_sem, Int.cast_ofNat_Int, Nat.reduceEqDiff, reduceIte, Nat.reduceAdd, Nat.reduceMul, Nat.reduceLeDiff, Nat.reduceSub, Nat.reduceLT, Nat.zero_lt_succ, Int.reduceToNat, Int.reduceAdd, Int.reduceSub, Int.reduceMul, Int.reduceNeg, Int.reduceLT, Int.reduceLE, Int.reduceEq, Int.reduceBEq, Int.reduceBNe, Nat.reduceBEq, List.reduceReplicate, szV, Bool.false_eq_true]
              exact LeA.refl _
        · subst hY
          repeat' (first
            | with_reducible refine t_seq fun K => ?_
            | with_reducible refine t_block ?_
            | with_reducible refine t_scope ?_
            | with_reducible refine t_label ?_
            | with_reducible refine t_skip ?_
            | with_reducible refine t_exit ?_
            | with_reducible refine t_ret ?_
            | with_reducible refine t_k ?_
            | (with_reducible refine t_gF ?_)
            | ((first | with_reducible refine t_kE ?_ | with_reducible refine t_kD ?_ | with_reducible refine t_gS ?_ | with_reducible refine t_kL ?_ | (with_reducible refine t_kLE ?_ ?_; rotate_left) | with_reducible refine t_region fun K => ?_ | with_reducible refine t_draw (by kernel_rfl) fun K => ?_); simp only [go_sem, Int.cast_ofNat_Int, Nat.reduceEqDiff, reduceIte, Nat.reduceAdd, Nat.reduceMul, Nat.reduceLeDiff, Nat.reduceSub, Nat.reduceLT, Nat.zero_lt_succ, Int.reduceToNat, Int.reduceAdd, Int.reduceSub, Int.reduceMul, Int.reduceNeg, Int.reduceLT, Int.reduceLE, Int.reduceEq, Int.reduceBEq, Int.reduceBNe, Nat.reduceBEq, List.reduceReplicate, g1])
            | (with_reducible exact kp_nil)
            | (with_reducible exact Kp.refl _)
            | (with_reducible exact kp_to)
            | (with_reducible refine kp_cons ?_)
            | (with_reducible refine kp_arr ?_)
            | (with_reducible refine kp_app ?_)
            | ((with_reducible refine kp_skip ?_ ?_); rfl)
            | ((with_reducible refine t_cond fun A B => ?_); simp only [go_sem, Int.cast_ofNat_Int, Nat.reduceEqDiff, reduceIte, Nat.reduceAdd, Nat.reduceMul, Nat.reduceLeDiff, Nat.reduceSub, Nat.reduceLT, Nat.zero_lt_succ, Int.reduceToNat, Int.reduceAdd, Int.reduceSub, Int.reduceMul, Int.reduceNeg, Int.reduceLT, Int.reduceLE, Int.reduceEq, Int.reduceBEq, Int.reduceBNe, Nat.reduceBEq, List.reduceReplicate, g1]; first | (with_reducible refine A.h ?_) | (with_reducible refine B.h ?_) | refine And.intro (fun hc => A.h ?_) (fun hc => B.h ?_))
            | simp only [thenQ_n, thenQ_r, thenQ_e, blockQ_n, blockQ_r, blockQ_e, scopeQ_n, scopeQ_r, scopeQ_e, Nat.reduceEqDiff, reduceIte]
            | (with_reducible refine And.intro ?_ ?_)
            | with_reducible intro vr)
          refine end_ret rfl ?_
          simp only [fin, go_sem, Int.cast_ofNat_Int, Nat.reduceEqDiff, reduceIte, Nat.reduceAdd, Nat.reduceMul, Nat.reduceLeDiff, Nat.reduceSub, Nat.reduceLT, Nat.zero_lt_succ, Int.reduceToNat, Int.reduceAdd, Int.reduceSub, Int.reduceMul, Int.reduceNeg, Int.reduceLT, Int.reduceLE, Int.reduceEq, Int.reduceBEq, Int.reduceBNe, Nat.reduceBEq, List.reduceReplicate, szV, Bool.false_eq_true]
          exact LeA.refl _
noncomputable def con10 : PCon Tryd.prog where
  f := 10
  c := fun
    | [xl] => match slK .i64 xl with | some l => some (l.length ≤ 1000000, szV (sizeS l)) | _ => none
    | _ => none
  ok := by
    intro args p r hc hp
    split at hc
    · split at hc
      · rename_i hl
        cases hc
        exact PC.weak (rsize_pc hp) ⟨slK_le hl, trivial⟩
      · cases hc
    · cases hc
  fk := fk10
theorem con10_f : con10.f = 10 := rfl
theorem con10_c {xl : AV} : con10.c [xl] = match slK .i64 xl with | some l => some (l.length ≤ 1000000, szV (sizeS l)) | _ => none := rfl
end Go.Proofs.YtjlcbojpiieafaaDoor
