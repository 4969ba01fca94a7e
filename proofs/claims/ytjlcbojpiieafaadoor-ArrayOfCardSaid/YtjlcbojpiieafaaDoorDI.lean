/- The laws on the order and on Set. -/
import Derived.Test.YtjlcbojpiieafaaDoorDH
import Derived.Test.YtjlcbojpiieafaaDoorDG
import Derived.Test.YtjlcbojpiieafaaDoorDD

set_option linter.all false

namespace Go.Proofs.YtjlcbojpiieafaaDoor
open Go Go.Fw

theorem wrap_small {k : Int} (h : 0 ≤ k ∧ k < 65536) : IntKind.i64.wrap k = k := wrap_i64 (by unfold inI64; omega)
theorem tmod_bd {k n : Int} (h : 0 ≤ k) (hn : 0 < n) : 0 ≤ k.tmod n ∧ k.tmod n < n := by
  rw [Int.tmod_eq_emod_of_nonneg h]
  exact ⟨Int.emod_nonneg _ (by omega), Int.emod_lt_of_pos _ hn⟩
noncomputable def E73 : Env := envJ (P := Tryd.prog) jk zer (fun _ => false) (fun _ => false) [con31] []
theorem E73_ok : EnvOk Tryd.prog E73 := envJOk zer_ok
theorem size_any {l : List Int} : PC Tryd.prog 9 [.sl false 1 (ints .i64 l)] (szV (sizeS l)) := by
  by_cases h : l.length ≤ 1000000
  · exact size_pc h
  · have h1 : decide ((l.length : Int) > 6) = true := decide_eq_true (by omega)
    have h2 : sizeS l = (0, 13) := by unfold sizeS; rw [if_pos (by omega)]
    rw [h2]
    refine pc_ofR E73_ok mixed (fun _ => [0, 2, 3, 5, 6, 8, 11, 12, 13, 14, 15, 23, 26, 27, 28, 29, 30, 37]) (rs := [.tmp 2, .tmp 3]) Tryd.func9 rfl (by kernel_rfl) (by kernel_rfl) (Nat.le_of_ble_eq_true rfl) ?_
    simp only [initF_cons, initF_nil, Nat.reduceAdd]
    refine t_name fun KF => ?_
    unfold E73
    repeat' (first
      | with_reducible refine t_seq fun K => ?_
      | with_reducible refine t_block ?_
      | with_reducible refine t_scope ?_
      | with_reducible refine t_label ?_
      | with_reducible refine t_skip ?_
      | with_reducible refine t_exit ?_
      | with_reducible refine t_ret ?_
      | with_reducible refine t_k ?_
      | (with_reducible refine t_gF ?_)
      | ((first | with_reducible refine t_kE ?_ | with_reducible refine t_kD ?_ | with_reducible refine t_gS ?_ | with_reducible refine t_kL ?_ | (with_reducible refine t_kLE ?_ ?_; rotate_left) | with_reducible refine t_region fun K => ?_ | with_reducible refine t_draw (by kernel_rfl) fun K => ?_); simp only [go_sem, Int.cast_ofNat_Int, Nat.reduceEqDiff, reduceIte, Nat.reduceAdd, Nat.reduceMul, Nat.reduceLeDiff, Nat.reduceSub, Nat.reduceLT, Nat.zero_lt_succ, Int.reduceToNat, Int.reduceAdd, Int.reduceSub, Int.reduceMul, Int.reduceNeg, Int.reduceLT, Int.reduceLE, Int.reduceEq, Int.reduceBEq, Int.reduceBNe, Nat.reduceBEq, List.reduceReplicate, h1])
      | (with_reducible exact kp_nil)
      | (with_reducible exact Kp.refl _)
      | (with_reducible exact kp_to)
      | (with_reducible refine kp_cons ?_)
      | (with_reducible refine kp_arr ?_)
      | (with_reducible refine kp_app ?_)
      | ((with_reducible refine kp_skip ?_ ?_); rfl)
      | ((with_reducible refine t_cond fun A B => ?_); simp only [go_sem, Int.cast_ofNat_Int, Nat.reduceEqDiff, reduceIte, Nat.reduceAdd, Nat.reduceMul, Nat.reduceLeDiff, Nat.reduceSub, Nat.reduceLT, Nat.zero_lt_succ, Int.reduceToNat, Int.reduceAdd, Int.reduceSub, Int.reduceMul, Int.reduceNeg, Int.reduceLT, Int.reduceLE, Int.reduceEq, Int.reduceBEq, Int.reduceBNe, Nat.reduceBEq, List.reduceReplicate, h1]; first | (with_reducible refine A.h ?_) | (with_reducible refine B.h ?_) | (refine And.intro (fun hc => A.h ?_) (fun hc => B.h ?_)))
      | simp only [thenQ_n, thenQ_r, thenQ_e, blockQ_n, blockQ_r, blockQ_e, scopeQ_n, scopeQ_r, scopeQ_e, Nat.reduceEqDiff, reduceIte]
      | (with_reducible refine And.intro ?_ ?_)
      | with_reducible intro vr)
    all_goals ((first | refine end_retE ?_ | refine end_normE ?_); simp only [fin, go_sem, Int.cast_ofNat_Int, Nat.reduceEqDiff, reduceIte, Nat.reduceAdd, Nat.reduceMul, Nat.reduceLeDiff, Nat.reduceSub, Nat.reduceLT, Nat.zero_lt_succ, Int.reduceToNat, Int.reduceAdd, Int.reduceSub, Int.reduceMul, Int.reduceNeg, Int.reduceLT, Int.reduceLE, Int.reduceEq, Int.reduceBEq, Int.reduceBNe, Nat.reduceBEq, List.reduceReplicate])
    exact LeA.refl _
noncomputable def con9b : PCon Tryd.prog := { con9 with
  c := fun
    | [x] => match slK .i64 x with | some l => some (True, szV (sizeS l)) | _ => none
    | _ => none
  ok := by
    intro args p r hc hp
    split at hc
    · split at hc
      · rename_i hl
        cases hc
        exact PC.weak size_any ⟨slK_le hl, trivial⟩
      · cases hc
    · cases hc }
theorem con9b_f : con9b.f = 9 := rfl
theorem con9b_c {x : AV} : con9b.c [x] = match slK .i64 x with | some l => some (True, szV (sizeS l)) | _ => none := rfl
noncomputable def E71 : Env := envJ (P := Tryd.prog) jk zer (fun _ => false) (fun _ => false) [con8, con9b, con13, con11] []
theorem E71_ok : EnvOk Tryd.prog E71 := envJOk zer_ok
set_option maxRecDepth 20000 in
set_option maxHeartbeats 4000000 in
theorem law4 {d : List Int} {k m : Int} (hk : 0 ≤ k ∧ k < 65536) (hm : 0 ≤ m ∧ m < 65536) : PC Tryd.prog 4 [.sl false 1 (ints .i64 d), .lit (.int .u16 k), .lit (.int .u16 m)] (.lit (.bool true)) := by
  by_cases h : (decide ((d.length : Int) > 8) || ((sizeS d).2 != 0) || ((sizeS d).1 == 0)) = false
  · have h0 := h
    simp only [Bool.or_eq_false_iff, decide_eq_false_iff_not, bne_eq_false_iff_eq, beq_eq_false_iff_ne] at h
    obtain ⟨⟨h1, h2⟩, h3⟩ := h
    have hz := sizeS_bd d
    generalize hS : sizeS d = s at h2 h3 hz
    obtain ⟨n, e⟩ := s
    simp only at h2 h3 hz
    subst h2
    have g1 : decide ((d.length : Int) > 8) = false := decide_eq_false (by omega)
    have g2 : (n == 0) = false := by rw [beq_eq_false_iff_ne]; exact h3
    have hp := tmod_bd hk.1 (show 0 < n by omega)
    have hq := tmod_bd hm.1 (show 0 < n by omega)
    have wk := wrap_small hk
    have wm := wrap_small hm
    generalize hpe : k.tmod n = p at hp
    generalize hqe : m.tmod n = q at hq
    obtain ⟨e1, hd1, hn⟩ := idx_ok hS hp.1 hp.2
    have e2 := (idx_ok hS hq.1 hq.2).1
    have e3 := off_dig hS hp.1 hp.2
    have l1 := digF_len d p
    have l2 := digF_len d q
    have ho := ordL_dig d p q hd1 hp.1 (by omega) hq.1 (by omega)
    generalize digF d p = x at e1 e3 l1 ho
    generalize digF d q = y at e2 l2 ho
    refine pc_ofR E71_ok mixed (fun _ => [0, 1, 2, 6, 7, 8, 9, 10, 11, 12, 13, 14, 15, 16, 17, 19, 35, 90, 92, 93, 94, 104]) (rs := [.tmp 6]) Tryd.func4 rfl (by kernel_rfl) (by kernel_rfl) (Nat.le_of_ble_eq_true rfl) ?_
    simp only [initF_cons, initF_nil, Nat.reduceAdd]
    refine t_name fun KF => ?_
    unfold E71
    repeat' (first
      | with_reducible refine t_seq fun K => ?_
      | with_reducible refine t_block ?_
      | with_reducible refine t_scope ?_
      | with_reducible refine t_label ?_
      | with_reducible refine t_skip ?_
      | with_reducible refine t_exit ?_
      | with_reducible refine t_ret ?_
      | with_reducible refine t_k ?_
      | (with_reducible refine t_gF ?_)
      | ((first | with_reducible refine t_kE ?_ | with_reducible refine t_kD ?_ | with_reducible refine t_gS ?_ | with_reducible refine t_kL ?_ | (with_reducible refine t_kLE ?_ ?_; rotate_left) | with_reducible refine t_region fun K => ?_ | with_reducible refine t_draw (by kernel_rfl) fun K => ?_); simp only [go_sem, Int.cast_ofNat_Int, Nat.reduceEqDiff, reduceIte, Nat.reduceAdd, Nat.reduceMul, Nat.reduceLeDiff, Nat.reduceSub, Nat.reduceLT, Nat.zero_lt_succ, Int.reduceToNat, Int.reduceAdd, Int.reduceSub, Int.reduceMul, Int.reduceNeg, Int.reduceLT, Int.reduceLE, Int.reduceEq, Int.reduceBEq, Int.reduceBNe, Nat.reduceBEq, List.reduceReplicate, con8_f, con9b_f, con13_f, con11_f, con8_c, con9b_c, con13_c, con11_c, slK_sl, szV_def, ixV_def, hS, g1, g2, wk, wm, hpe, hqe, e1, e2, e3, l1, l2])
      | (with_reducible exact kp_nil)
      | (with_reducible exact Kp.refl _)
      | (with_reducible exact kp_to)
      | (with_reducible refine kp_cons ?_)
      | (with_reducible refine kp_arr ?_)
      | (with_reducible refine kp_app ?_)
      | ((with_reducible refine kp_skip ?_ ?_); rfl)
      | ((with_reducible refine t_cond fun A B => ?_); simp only [go_sem, Int.cast_ofNat_Int, Nat.reduceEqDiff, reduceIte, Nat.reduceAdd, Nat.reduceMul, Nat.reduceLeDiff, Nat.reduceSub, Nat.reduceLT, Nat.zero_lt_succ, Int.reduceToNat, Int.reduceAdd, Int.reduceSub, Int.reduceMul, Int.reduceNeg, Int.reduceLT, Int.reduceLE, Int.reduceEq, Int.reduceBEq, Int.reduceBNe, Nat.reduceBEq, List.reduceReplicate, con8_f, con9b_f, con13_f, con11_f, con8_c, con9b_c, con13_c, con11_c, slK_sl, szV_def, ixV_def, hS, g1, g2, wk, wm, hpe, hqe, e1, e2, e3, l1, l2]; first | (with_reducible refine A.h ?_) | (with_reducible refine B.h ?_) | (refine And.intro (fun hc => A.h ?_) (fun hc => B.h ?_)))
      | simp only [thenQ_n, thenQ_r, thenQ_e, blockQ_n, blockQ_r, blockQ_e, scopeQ_n, scopeQ_r, scopeQ_e, Nat.reduceEqDiff, reduceIte]
      | (with_reducible refine And.intro ?_ ?_)
      | with_reducible intro vr)
    all_goals try (exfalso; simp_all; done)
    all_goals try (first | (with_reducible assumption) | (intros; (try simp only [Bool.and_eq_true, Bool.or_eq_true, Bool.not_eq_true', decide_eq_true_eq, decide_eq_false_iff_not, beq_iff_eq, bne_iff_ne, ne_eq, inI64, List.length_append] at *) <;> omega))
    refine t_loopF (ι := { i : Nat // i ≤ d.length ∧ ordL (decide (p < q)) (p == q) (x.drop i) (y.drop i) = true }) (fun i => [(93, .lit (.int .i64 i.1))]) (fun i => []) (fun i => d.length - i.1) ⟨0, by omega, by simpa using ho⟩ ?_ ?_
    · simp only [updL_nil, updL_cons, delF_top, delF_upd, Nat.reduceEqDiff, reduceIte]
      refine Le.frameS (by first | rfl | (simp only [go_sem, Int.cast_ofNat_Int, Nat.reduceEqDiff, reduceIte, Nat.reduceAdd, Nat.reduceMul, Nat.reduceLeDiff, Nat.reduceSub, Nat.reduceLT, Nat.zero_lt_succ, Int.reduceToNat, Int.reduceAdd, Int.reduceSub, Int.reduceMul, Int.reduceNeg, Int.reduceLT, Int.reduceLE, Int.reduceEq, Int.reduceBEq, Int.reduceBNe, Nat.reduceBEq, List.reduceReplicate]; try rfl)) ?_
      repeat' (first | exact leF_top _ | exact (fun _ => LeR.refl _) | (with_reducible refine leF_sl ?_ ?_) | (refine leF_upd ?_ ?_))
      all_goals (first | exact LeR.top _ | exact LeR.refl _ | (refine LeR.of_eq ?_; (try simp only [go_sem, Int.cast_ofNat_Int, Nat.reduceEqDiff, reduceIte, Nat.reduceAdd, Nat.reduceMul, Nat.reduceLeDiff, Nat.reduceSub, Nat.reduceLT, Nat.zero_lt_succ, Int.reduceToNat, Int.reduceAdd, Int.reduceSub, Int.reduceMul, Int.reduceNeg, Int.reduceLT, Int.reduceLE, Int.reduceEq, Int.reduceBEq, Int.reduceBNe, Nat.reduceBEq, List.reduceReplicate]); try rfl) | ((try simp only [go_sem, Int.cast_ofNat_Int, Nat.reduceEqDiff, reduceIte, Nat.reduceAdd, Nat.reduceMul, Nat.reduceLeDiff, Nat.reduceSub, Nat.reduceLT, Nat.zero_lt_succ, Int.reduceToNat, Int.reduceAdd, Int.reduceSub, Int.reduceMul, Int.reduceNeg, Int.reduceLT, Int.reduceLE, Int.reduceEq, Int.reduceBEq, Int.reduceBNe, Nat.reduceBEq, List.reduceReplicate]); try rfl))
    rintro ⟨i, hi, hF⟩ K0
    rcases Nat.lt_or_ge i d.length with hc | hc
    · rw [drop_getD 0 (show i < x.length by omega), drop_getD 0 (show i < y.length by omega), ordL] at hF
      have g3 : decide ((i : Int) < (d.length : Int)) = true := decide_eq_true (by omega)
      repeat' (first
        | with_reducible refine t_seq fun K => ?_
        | with_reducible refine t_block ?_
        | with_reducible refine t_scope ?_
        | with_reducible refine t_label ?_
        | with_reducible refine t_skip ?_
        | with_reducible refine t_exit ?_
        | with_reducible refine t_ret ?_
        | with_reducible refine t_k ?_
        | (with_reducible refine t_gF ?_)
        | ((first | with_reducible refine t_kE ?_ | with_reducible refine t_kD ?_ | with_reducible refine t_gS ?_ | with_reducible refine t_kL ?_ | (with_reducible refine t_kLE ?_ ?_; rotate_left) | with_reducible refine t_region fun K => ?_ | with_reducible refine t_draw (by kernel_rfl) fun K => ?_); simp only [go_sem, Int.cast_ofNat_Int, Nat.reduceEqDiff, reduceIte, Nat.reduceAdd, Nat.reduceMul, Nat.reduceLeDiff, Nat.reduceSub, Nat.reduceLT, Nat.zero_lt_succ, Int.reduceToNat, Int.reduceAdd, Int.reduceSub, Int.reduceMul, Int.reduceNeg, Int.reduceLT, Int.reduceLE, Int.reduceEq, Int.reduceBEq, Int.reduceBNe, Nat.reduceBEq, List.reduceReplicate, con8_f, con9b_f, con13_f, con11_f, updL_cons, updL_nil, g3, Int.toNat_natCast, l1, l2])
        | (with_reducible exact kp_nil)
        | (with_reducible exact Kp.refl _)
        | (with_reducible exact kp_to)
        | (with_reducible refine kp_cons ?_)
        | (with_reducible refine kp_arr ?_)
        | (with_reducible refine kp_app ?_)
        | ((with_reducible refine kp_skip ?_ ?_); rfl)
        | ((with_reducible refine t_cond fun A B => ?_); simp only [go_sem, Int.cast_ofNat_Int, Nat.reduceEqDiff, reduceIte, Nat.reduceAdd, Nat.reduceMul, Nat.reduceLeDiff, Nat.reduceSub, Nat.reduceLT, Nat.zero_lt_succ, Int.reduceToNat, Int.reduceAdd, Int.reduceSub, Int.reduceMul, Int.reduceNeg, Int.reduceLT, Int.reduceLE, Int.reduceEq, Int.reduceBEq, Int.reduceBNe, Nat.reduceBEq, List.reduceReplicate, con8_f, con9b_f, con13_f, con11_f, updL_cons, updL_nil, g3, Int.toNat_natCast, l1, l2]; first | (with_reducible refine A.h ?_) | (with_reducible refine B.h ?_) | (refine And.intro (fun hc => A.h ?_) (fun hc => B.h ?_)))
        | simp only [thenQ_n, thenQ_r, thenQ_e, blockQ_n, blockQ_r, blockQ_e, scopeQ_n, scopeQ_r, scopeQ_e, Nat.reduceEqDiff, reduceIte]
        | (with_reducible refine And.intro ?_ ?_)
        | with_reducible intro vr)
      all_goals try (first | (with_reducible assumption) | (intros; (try simp only [Bool.and_eq_true, Bool.or_eq_true, Bool.not_eq_true', decide_eq_true_eq, decide_eq_false_iff_not, beq_iff_eq, bne_iff_ne, ne_eq, inI64, List.length_append] at *) <;> omega))
      · skip
        all_goals ((first | refine end_retE ?_ | refine end_normE ?_); simp only [fin, go_sem, Int.cast_ofNat_Int, Nat.reduceEqDiff, reduceIte, Nat.reduceAdd, Nat.reduceMul, Nat.reduceLeDiff, Nat.reduceSub, Nat.reduceLT, Nat.zero_lt_succ, Int.reduceToNat, Int.reduceAdd, Int.reduceSub, Int.reduceMul, Int.reduceNeg, Int.reduceLT, Int.reduceLE, Int.reduceEq, Int.reduceBEq, Int.reduceBNe, Nat.reduceBEq, List.reduceReplicate])
        exact LeA.of_eq (by simp_all)
      · skip
        refine ⟨⟨i + 1, by omega, by simp_all⟩, by first | (simp only; omega) | omega, ?_⟩
        simp only [updL_nil, updL_cons, delF_top, delF_upd, Nat.reduceEqDiff, reduceIte]
        refine Le.frameS (by first | rfl | (simp only [go_sem, Int.cast_ofNat_Int, Nat.reduceEqDiff, reduceIte, Nat.reduceAdd, Nat.reduceMul, Nat.reduceLeDiff, Nat.reduceSub, Nat.reduceLT, Nat.zero_lt_succ, Int.reduceToNat, Int.reduceAdd, Int.reduceSub, Int.reduceMul, Int.reduceNeg, Int.reduceLT, Int.reduceLE, Int.reduceEq, Int.reduceBEq, Int.reduceBNe, Nat.reduceBEq, List.reduceReplicate]; try rfl)) ?_
        repeat' (first | exact leF_top _ | exact (fun _ => LeR.refl _) | (with_reducible refine leF_sl ?_ ?_) | (refine leF_upd ?_ ?_))
        all_goals (first | exact LeR.top _ | exact LeR.refl _ | (refine LeR.of_eq ?_; (try simp only [go_sem, Int.cast_ofNat_Int, Nat.reduceEqDiff, reduceIte, Nat.reduceAdd, Nat.reduceMul, Nat.reduceLeDiff, Nat.reduceSub, Nat.reduceLT, Nat.zero_lt_succ, Int.reduceToNat, Int.reduceAdd, Int.reduceSub, Int.reduceMul, Int.reduceNeg, Int.reduceLT, Int.reduceLE, Int.reduceEq, Int.reduceBEq, Int.reduceBNe, Nat.reduceBEq, List.reduceReplicate]); try rfl) | ((try simp only [go_sem, Int.cast_ofNat_Int, Nat.reduceEqDiff, reduceIte, Nat.reduceAdd, Nat.reduceMul, Nat.reduceLeDiff, Nat.reduceSub, Nat.reduceLT, Nat.zero_lt_succ, Int.reduceToNat, Int.reduceAdd, Int.reduceSub, Int.reduceMul, Int.reduceNeg, Int.reduceLT, Int.reduceLE, Int.reduceEq, Int.reduceBEq, Int.reduceBNe, Nat.reduceBEq, List.reduceReplicate]); try rfl))
    · have g3 : decide ((i : Int) < (d.length : Int)) = false := decide_eq_false (by omega)
      repeat' (first
        | with_reducible refine t_seq fun K => ?_
        | with_reducible refine t_block ?_
        | with_reducible refine t_scope ?_
        | with_reducible refine t_label ?_
        | with_reducible refine t_skip ?_
        | with_reducible refine t_exit ?_
        | with_reducible refine t_ret ?_
        | with_reducible refine t_k ?_
        | (with_reducible refine t_gF ?_)
        | ((first | with_reducible refine t_kE ?_ | with_reducible refine t_kD ?_ | with_reducible refine t_gS ?_ | with_reducible refine t_kL ?_ | (with_reducible refine t_kLE ?_ ?_; rotate_left) | with_reducible refine t_region fun K => ?_ | with_reducible refine t_draw (by kernel_rfl) fun K => ?_); simp only [go_sem, Int.cast_ofNat_Int, Nat.reduceEqDiff, reduceIte, Nat.reduceAdd, Nat.reduceMul, Nat.reduceLeDiff, Nat.reduceSub, Nat.reduceLT, Nat.zero_lt_succ, Int.reduceToNat, Int.reduceAdd, Int.reduceSub, Int.reduceMul, Int.reduceNeg, Int.reduceLT, Int.reduceLE, Int.reduceEq, Int.reduceBEq, Int.reduceBNe, Nat.reduceBEq, List.reduceReplicate, con8_f, con9b_f, con13_f, con11_f, updL_cons, updL_nil, g3, Int.toNat_natCast, l1, l2])
        | (with_reducible exact kp_nil)
        | (with_reducible exact Kp.refl _)
        | (with_reducible exact kp_to)
        | (with_reducible refine kp_cons ?_)
        | (with_reducible refine kp_arr ?_)
        | (with_reducible refine kp_app ?_)
        | ((with_reducible refine kp_skip ?_ ?_); rfl)
        | ((with_reducible refine t_cond fun A B => ?_); simp only [go_sem, Int.cast_ofNat_Int, Nat.reduceEqDiff, reduceIte, Nat.reduceAdd, Nat.reduceMul, Nat.reduceLeDiff, Nat.reduceSub, Nat.reduceLT, Nat.zero_lt_succ, Int.reduceToNat, Int.reduceAdd, Int.reduceSub, Int.reduceMul, Int.reduceNeg, Int.reduceLT, Int.reduceLE, Int.reduceEq, Int.reduceBEq, Int.reduceBNe, Nat.reduceBEq, List.reduceReplicate, con8_f, con9b_f, con13_f, con11_f, updL_cons, updL_nil, g3, Int.toNat_natCast, l1, l2]; first | (with_reducible refine A.h ?_) | (with_reducible refine B.h ?_) | (refine And.intro (fun hc => A.h ?_) (fun hc => B.h ?_)))
        | simp only [thenQ_n, thenQ_r, thenQ_e, blockQ_n, blockQ_r, blockQ_e, scopeQ_n, scopeQ_r, scopeQ_e, Nat.reduceEqDiff, reduceIte]
        | (with_reducible refine And.intro ?_ ?_)
        | with_reducible intro vr)
      rw [List.drop_eq_nil_of_le (by omega), ordL] at hF
      · skip
        all_goals ((first | refine end_retE ?_ | refine end_normE ?_); simp only [fin, go_sem, Int.cast_ofNat_Int, Nat.reduceEqDiff, reduceIte, Nat.reduceAdd, Nat.reduceMul, Nat.reduceLeDiff, Nat.reduceSub, Nat.reduceLT, Nat.zero_lt_succ, Int.reduceToNat, Int.reduceAdd, Int.reduceSub, Int.reduceMul, Int.reduceNeg, Int.reduceLT, Int.reduceLE, Int.reduceEq, Int.reduceBEq, Int.reduceBNe, Nat.reduceBEq, List.reduceReplicate])
        exact LeA.of_eq (by simp_all)
      · simp
  · have h' : (decide ((d.length : Int) > 8) || ((sizeS d).2 != 0) || ((sizeS d).1 == 0)) = true := by rw [Bool.not_eq_false] at h; exact h
    refine pc_ofR E71_ok mixed (fun _ => [0, 1, 2, 6, 7, 8, 9, 10, 11, 12, 13, 14, 15, 16, 17, 19, 35, 90, 92, 93, 94, 104]) (rs := [.tmp 6]) Tryd.func4 rfl (by kernel_rfl) (by kernel_rfl) (Nat.le_of_ble_eq_true rfl) ?_
    simp only [initF_cons, initF_nil, Nat.reduceAdd]
    refine t_name fun KF => ?_
    unfold E71
    repeat' (first
      | with_reducible refine t_seq fun K => ?_
      | with_reducible refine t_block ?_
      | with_reducible refine t_scope ?_
      | with_reducible refine t_label ?_
      | with_reducible refine t_skip ?_
      | with_reducible refine t_exit ?_
      | with_reducible refine t_ret ?_
      | with_reducible refine t_k ?_
      | (with_reducible refine t_gF ?_)
      | ((first | with_reducible refine t_kE ?_ | with_reducible refine t_kD ?_ | with_reducible refine t_gS ?_ | with_reducible refine t_kL ?_ | (with_reducible refine t_kLE ?_ ?_; rotate_left) | with_reducible refine t_region fun K => ?_ | with_reducible refine t_draw (by kernel_rfl) fun K => ?_); simp only [go_sem, Int.cast_ofNat_Int, Nat.reduceEqDiff, reduceIte, Nat.reduceAdd, Nat.reduceMul, Nat.reduceLeDiff, Nat.reduceSub, Nat.reduceLT, Nat.zero_lt_succ, Int.reduceToNat, Int.reduceAdd, Int.reduceSub, Int.reduceMul, Int.reduceNeg, Int.reduceLT, Int.reduceLE, Int.reduceEq, Int.reduceBEq, Int.reduceBNe, Nat.reduceBEq, List.reduceReplicate, con8_f, con9b_f, con13_f, con11_f, con8_c, con9b_c, con13_c, con11_c, slK_sl, szV_def, ixV_def, h'])
      | (with_reducible exact kp_nil)
      | (with_reducible exact Kp.refl _)
      | (with_reducible exact kp_to)
      | (with_reducible refine kp_cons ?_)
      | (with_reducible refine kp_arr ?_)
      | (with_reducible refine kp_app ?_)
      | ((with_reducible refine kp_skip ?_ ?_); rfl)
      | ((with_reducible refine t_cond fun A B => ?_); simp only [go_sem, Int.cast_ofNat_Int, Nat.reduceEqDiff, reduceIte, Nat.reduceAdd, Nat.reduceMul, Nat.reduceLeDiff, Nat.reduceSub, Nat.reduceLT, Nat.zero_lt_succ, Int.reduceToNat, Int.reduceAdd, Int.reduceSub, Int.reduceMul, Int.reduceNeg, Int.reduceLT, Int.reduceLE, Int.reduceEq, Int.reduceBEq, Int.reduceBNe, Nat.reduceBEq, List.reduceReplicate, con8_f, con9b_f, con13_f, con11_f, con8_c, con9b_c, con13_c, con11_c, slK_sl, szV_def, ixV_def, h']; first | (with_reducible refine A.h ?_) | (with_reducible refine B.h ?_) | (refine And.intro (fun hc => A.h ?_) (fun hc => B.h ?_)))
      | simp only [thenQ_n, thenQ_r, thenQ_e, blockQ_n, blockQ_r, blockQ_e, scopeQ_n, scopeQ_r, scopeQ_e, Nat.reduceEqDiff, reduceIte]
      | (with_reducible refine And.intro ?_ ?_)
      | with_reducible intro vr)
    all_goals try (first | (with_reducible assumption) | (intros; (try simp only [Bool.and_eq_true, Bool.or_eq_true, Bool.not_eq_true', decide_eq_true_eq, decide_eq_false_iff_not, beq_iff_eq, bne_iff_ne, ne_eq, inI64, List.length_append] at *) <;> omega))
    all_goals ((first | refine end_retE ?_ | refine end_normE ?_); simp only [fin, go_sem, Int.cast_ofNat_Int, Nat.reduceEqDiff, reduceIte, Nat.reduceAdd, Nat.reduceMul, Nat.reduceLeDiff, Nat.reduceSub, Nat.reduceLT, Nat.zero_lt_succ, Int.reduceToNat, Int.reduceAdd, Int.reduceSub, Int.reduceMul, Int.reduceNeg, Int.reduceLT, Int.reduceLE, Int.reduceEq, Int.reduceBEq, Int.reduceBNe, Nat.reduceBEq, List.reduceReplicate])
    all_goals exact LeA.refl _
theorem place_dig {a : Arr} {p : Int} (h0 : ofE a = 0) (h : 0 ≤ p) (hb : p < a.x.length) : placeS a (digF a.d p) = (p, 0) := by
  unfold placeS
  rw [if_pos h0]
  exact off_dig (ofE_inv h0).2.1 h hb
noncomputable def E72 : Env := envJ (P := Tryd.prog) jk zer (fun _ => false) (fun _ => false) [con8, con13, con15, con16, con21, con23, con25, con27, con29] []
theorem E72_ok : EnvOk Tryd.prog E72 := envJOk zer_ok
set_option maxRecDepth 20000 in
set_option maxHeartbeats 4000000 in
theorem law7 {a : Arr} {k m n : Int} (hk : 0 ≤ k ∧ k < 65536) (hm : 0 ≤ m ∧ m < 65536) : PC Tryd.prog 7 [arrV a, .agg [.lit (.int .u16 k), .lit (.int .u16 m)], .lit (.int .i64 n)] (.lit (.bool true)) := by
  by_cases h : (!fewA a 100 || !(ofE a == 0) || ((a.x.length : Int) == 0) || !vld a.e n) = false
  · have hg := h
    simp only [Bool.or_eq_false_iff, Bool.not_eq_false', beq_eq_false_iff_ne, beq_iff_eq] at h
    obtain ⟨⟨⟨h1, h0⟩, h3⟩, hv⟩ := h
    have ha := few_ok h1 (by decide)
    have ha1 := ha.1
    have ha2 := ha.2
    have hS := (ofE_inv h0).2.1
    have hbd := (ofE_inv h0).2.2
    have hp := tmod_bd hk.1 (show (0 : Int) < a.x.length by omega)
    have hq := tmod_bd hm.1 (show (0 : Int) < a.x.length by omega)
    have wk := wrap_small hk
    have wm := wrap_small hm
    have g1 : (ofE a == 0) = true := by rw [h0]; rfl
    have g2 : ((a.x.length : Int) == 0) = false := beq_eq_false_iff_ne.2 h3
    generalize hpe : k.tmod (a.x.length : Int) = p at hp
    generalize hqe : m.tmod (a.x.length : Int) = q at hq
    obtain ⟨e1, hd1, hn⟩ := idx_ok hS hp.1 hp.2
    have e2 := (idx_ok hS hq.1 hq.2).1
    have p1 := place_dig h0 hp.1 hp.2
    have p2 := place_dig h0 hq.1 hq.2
    have hb0 := ofE_set (i := p.toNat) h0 hv
    have p3 := place_dig (a := ⟨a.e, a.d, a.x.set p.toNat n⟩) hb0 hq.1 (by simpa using hq.2)
    have hold : vld a.e (a.x.getD q.toNat 0) = true := by
      have := getD_mem (0 : Int) (show q.toNat < a.x.length by omega)
      unfold bad at hbd
      rw [List.any_eq_false] at hbd
      simpa using hbd _ this
    have a1 : atA a (digF a.d q) = (a.x.getD q.toNat 0, 0) := by unfold atA; rw [p2]; simp
    have s1 : setA' a (digF a.d p) n = (⟨a.e, a.d, a.x.set p.toNat n⟩, 0) := by unfold setA'; rw [p1]; simp [hv]
    have a2 : atA ⟨a.e, a.d, a.x.set p.toNat n⟩ (digF a.d q) = ((a.x.set p.toNat n).getD q.toNat 0, 0) := by
      unfold atA; simp only at p3; rw [p3]; simp
    have s2 : setA' a (digF a.d q) (a.x.getD q.toNat 0) = (a, 0) := by
      unfold setA'; rw [p2]
      simp only [hold]
      rw [if_neg (by simp), if_neg (by simp)]
      congr 1
      have e : a.x.set q.toNat (a.x.getD q.toNat 0) = a.x := by
        rw [List.getD_eq_getElem?_getD, List.getElem?_eq_getElem (by omega)]
        simp
      rw [e]
    have hx1 : digF a.d p = digF a.d q → (a.x.set p.toNat n).getD q.toNat 0 = n := fun e => by
      have := digF_inj hd1 hp.1 (by omega) hq.1 (by omega) e
      subst this
      rw [List.getD_eq_getElem?_getD, List.getElem?_set_self (by omega)]; rfl
    have hx2 : digF a.d p ≠ digF a.d q → (a.x.set p.toNat n).getD q.toNat 0 = a.x.getD q.toNat 0 := fun e => by
      rw [List.getD_eq_getElem?_getD, List.getD_eq_getElem?_getD, List.getElem?_set_ne]
      intro h
      have : p = q := by omega
      exact e (by rw [this])
    have l1 := digF_len a.d p
    have l2 := digF_len a.d q
    have kW : okA ⟨a.e, a.d, a.x.set p.toNat n⟩ := ⟨ha1, by simpa using ha2⟩
    generalize (a.x.set p.toNat n).getD q.toNat 0 = v at a2 hx1 hx2
    generalize a.x.set p.toNat n = W at s1 a2 kW
    generalize a.x.getD q.toNat 0 = old at a1 s2 hx2
    generalize digF a.d p = X at e1 s1 hx1 hx2 l1
    generalize digF a.d q = Y at e2 a1 a2 s2 hx1 hx2 l2
    refine pc_ofR E72_ok mixed (fun _ => [0, 1, 2, 3, 4, 6, 7, 8, 9, 10, 11, 12, 13, 14, 15, 16, 17, 18, 19, 21, 42, 116, 120]) (rs := [.tmp 6]) Tryd.func7 rfl (by kernel_rfl) (by kernel_rfl) (Nat.le_of_ble_eq_true rfl) ?_
    simp only [initF_cons, initF_nil, Nat.reduceAdd]
    refine t_name fun KF => ?_
    unfold E72
    repeat' (first
      | with_reducible refine t_seq fun K => ?_
      | with_reducible refine t_block ?_
      | with_reducible refine t_scope ?_
      | with_reducible refine t_label ?_
      | with_reducible refine t_skip ?_
      | with_reducible refine t_exit ?_
      | with_reducible refine t_ret ?_
      | with_reducible refine t_k ?_
      | (with_reducible refine t_gF ?_)
      | ((first | with_reducible refine t_kE ?_ | with_reducible refine t_kD ?_ | with_reducible refine t_gS ?_ | with_reducible refine t_kL ?_ | (with_reducible refine t_kLE ?_ ?_; rotate_left) | with_reducible refine t_region fun K => ?_ | with_reducible refine t_draw (by kernel_rfl) fun K => ?_); simp only [go_sem, Int.cast_ofNat_Int, Nat.reduceEqDiff, reduceIte, Nat.reduceAdd, Nat.reduceMul, Nat.reduceLeDiff, Nat.reduceSub, Nat.reduceLT, Nat.zero_lt_succ, Int.reduceToNat, Int.reduceAdd, Int.reduceSub, Int.reduceMul, Int.reduceNeg, Int.reduceLT, Int.reduceLE, Int.reduceEq, Int.reduceBEq, Int.reduceBNe, Nat.reduceBEq, List.reduceReplicate, con8_f, con13_f, con15_f, con16_f, con21_f, con23_f, con25_f, con27_f, con29_f, con8_c, con13_c, con15_c, con16_c, con21_c, con23_c, con25_c, con27_c, con29_c, arrOf_agg, arrV_def, aeV_def, slK_sl, szV_def, ixV_def, arr_eta, h1, g1, g2, hv, wk, wm, hpe, hqe, e1, e2, a1, s1, a2, s2, eqA_refl, eqS_refl, dself, beq_self_eq_true])
      | (with_reducible exact kp_nil)
      | (with_reducible exact Kp.refl _)
      | (with_reducible exact kp_to)
      | (with_reducible refine kp_cons ?_)
      | (with_reducible refine kp_arr ?_)
      | (with_reducible refine kp_app ?_)
      | ((with_reducible refine kp_skip ?_ ?_); rfl)
      | ((with_reducible refine t_cond fun A B => ?_); simp only [go_sem, Int.cast_ofNat_Int, Nat.reduceEqDiff, reduceIte, Nat.reduceAdd, Nat.reduceMul, Nat.reduceLeDiff, Nat.reduceSub, Nat.reduceLT, Nat.zero_lt_succ, Int.reduceToNat, Int.reduceAdd, Int.reduceSub, Int.reduceMul, Int.reduceNeg, Int.reduceLT, Int.reduceLE, Int.reduceEq, Int.reduceBEq, Int.reduceBNe, Nat.reduceBEq, List.reduceReplicate, con8_f, con13_f, con15_f, con16_f, con21_f, con23_f, con25_f, con27_f, con29_f, con8_c, con13_c, con15_c, con16_c, con21_c, con23_c, con25_c, con27_c, con29_c, arrOf_agg, arrV_def, aeV_def, slK_sl, szV_def, ixV_def, arr_eta, h1, g1, g2, hv, wk, wm, hpe, hqe, e1, e2, a1, s1, a2, s2, eqA_refl, eqS_refl, dself, beq_self_eq_true]; first | (with_reducible refine A.h ?_) | (with_reducible refine B.h ?_) | (refine And.intro (fun hc => A.h ?_) (fun hc => B.h ?_)))
      | simp only [thenQ_n, thenQ_r, thenQ_e, blockQ_n, blockQ_r, blockQ_e, scopeQ_n, scopeQ_r, scopeQ_e, Nat.reduceEqDiff, reduceIte]
      | (with_reducible refine And.intro ?_ ?_)
      | with_reducible intro vr)
    all_goals try exact kW
    all_goals try exact ha
    all_goals try (first | (with_reducible assumption) | (intros; (try simp only [Bool.and_eq_true, Bool.or_eq_true, Bool.not_eq_true', decide_eq_true_eq, decide_eq_false_iff_not, beq_iff_eq, bne_iff_ne, ne_eq, inI64, List.length_append] at *) <;> omega))
    all_goals ((first | refine end_retE ?_ | refine end_normE ?_); simp only [fin, go_sem, Int.cast_ofNat_Int, Nat.reduceEqDiff, reduceIte, Nat.reduceAdd, Nat.reduceMul, Nat.reduceLeDiff, Nat.reduceSub, Nat.reduceLT, Nat.zero_lt_succ, Int.reduceToNat, Int.reduceAdd, Int.reduceSub, Int.reduceMul, Int.reduceNeg, Int.reduceLT, Int.reduceLE, Int.reduceEq, Int.reduceBEq, Int.reduceBNe, Nat.reduceBEq, List.reduceReplicate])
    all_goals exact LeA.of_eq (by simp_all)
  · have h' : (!fewA a 100 || !(ofE a == 0) || ((a.x.length : Int) == 0) || !vld a.e n) = true := by rw [Bool.not_eq_false] at h; exact h
    refine pc_ofR E72_ok mixed (fun _ => [0, 1, 2, 3, 4, 6, 7, 8, 9, 10, 11, 12, 13, 14, 15, 16, 17, 18, 19, 21, 42, 116, 120]) (rs := [.tmp 6]) Tryd.func7 rfl (by kernel_rfl) (by kernel_rfl) (Nat.le_of_ble_eq_true rfl) ?_
    simp only [initF_cons, initF_nil, Nat.reduceAdd]
    refine t_name fun KF => ?_
    unfold E72
    repeat' (first
      | with_reducible refine t_seq fun K => ?_
      | with_reducible refine t_block ?_
      | with_reducible refine t_scope ?_
      | with_reducible refine t_label ?_
      | with_reducible refine t_skip ?_
      | with_reducible refine t_exit ?_
      | with_reducible refine t_ret ?_
      | with_reducible refine t_k ?_
      | (with_reducible refine t_gF ?_)
      | ((first | with_reducible refine t_kE ?_ | with_reducible refine t_kD ?_ | with_reducible refine t_gS ?_ | with_reducible refine t_kL ?_ | (with_reducible refine t_kLE ?_ ?_; rotate_left) | with_reducible refine t_region fun K => ?_ | with_reducible refine t_draw (by kernel_rfl) fun K => ?_); simp only [go_sem, Int.cast_ofNat_Int, Nat.reduceEqDiff, reduceIte, Nat.reduceAdd, Nat.reduceMul, Nat.reduceLeDiff, Nat.reduceSub, Nat.reduceLT, Nat.zero_lt_succ, Int.reduceToNat, Int.reduceAdd, Int.reduceSub, Int.reduceMul, Int.reduceNeg, Int.reduceLT, Int.reduceLE, Int.reduceEq, Int.reduceBEq, Int.reduceBNe, Nat.reduceBEq, List.reduceReplicate, con8_f, con13_f, con15_f, con16_f, con21_f, con23_f, con25_f, con27_f, con29_f, con8_c, con13_c, con15_c, con16_c, con21_c, con23_c, con25_c, con27_c, con29_c, arrOf_agg, arrV_def, aeV_def, slK_sl, szV_def, ixV_def, arr_eta, h'])
      | (with_reducible exact kp_nil)
      | (with_reducible exact Kp.refl _)
      | (with_reducible exact kp_to)
      | (with_reducible refine kp_cons ?_)
      | (with_reducible refine kp_arr ?_)
      | (with_reducible refine kp_app ?_)
      | ((with_reducible refine kp_skip ?_ ?_); rfl)
      | ((with_reducible refine t_cond fun A B => ?_); simp only [go_sem, Int.cast_ofNat_Int, Nat.reduceEqDiff, reduceIte, Nat.reduceAdd, Nat.reduceMul, Nat.reduceLeDiff, Nat.reduceSub, Nat.reduceLT, Nat.zero_lt_succ, Int.reduceToNat, Int.reduceAdd, Int.reduceSub, Int.reduceMul, Int.reduceNeg, Int.reduceLT, Int.reduceLE, Int.reduceEq, Int.reduceBEq, Int.reduceBNe, Nat.reduceBEq, List.reduceReplicate, con8_f, con13_f, con15_f, con16_f, con21_f, con23_f, con25_f, con27_f, con29_f, con8_c, con13_c, con15_c, con16_c, con21_c, con23_c, con25_c, con27_c, con29_c, arrOf_agg, arrV_def, aeV_def, slK_sl, szV_def, ixV_def, arr_eta, h']; first | (with_reducible refine A.h ?_) | (with_reducible refine B.h ?_) | (refine And.intro (fun hc => A.h ?_) (fun hc => B.h ?_)))
      | simp only [thenQ_n, thenQ_r, thenQ_e, blockQ_n, blockQ_r, blockQ_e, scopeQ_n, scopeQ_r, scopeQ_e, Nat.reduceEqDiff, reduceIte]
      | (with_reducible refine And.intro ?_ ?_)
      | with_reducible intro vr)
    all_goals try (intros; have hk := few_ok (a := a) (n := 100) (by simp_all) (by decide); first | exact hk.1 | exact hk.2)
    all_goals try (first | (with_reducible assumption) | (intros; (try simp only [Bool.and_eq_true, Bool.or_eq_true, Bool.not_eq_true', decide_eq_true_eq, decide_eq_false_iff_not, beq_iff_eq, bne_iff_ne, ne_eq, inI64, List.length_append] at *) <;> omega))
    all_goals ((first | refine end_retE ?_ | refine end_normE ?_); simp only [fin, go_sem, Int.cast_ofNat_Int, Nat.reduceEqDiff, reduceIte, Nat.reduceAdd, Nat.reduceMul, Nat.reduceLeDiff, Nat.reduceSub, Nat.reduceLT, Nat.zero_lt_succ, Int.reduceToNat, Int.reduceAdd, Int.reduceSub, Int.reduceMul, Int.reduceNeg, Int.reduceLT, Int.reduceLE, Int.reduceEq, Int.reduceBEq, Int.reduceBNe, Nat.reduceBEq, List.reduceReplicate])
    all_goals exact LeA.refl _
theorem wf_u16 {a : Int} (w : (Lit.int .u16 a).wf = true) : 0 ≤ a ∧ a < 65536 := by
  have : 0 ≤ a ∧ a ≤ 65535 := by simpa [Lit.wf, IntKind.min, IntKind.max, IntKind.signed, IntKind.bits] using w
  omega
theorem law4_law : ∀ xs, ShL Tryd.prog Tryd.f4.params.toList xs → PC Tryd.prog 4 xs (.lit (.bool true))
  | [x, y, z], h => by
    obtain ⟨d, rfl, hd, _⟩ := shv_ints u22 u3 sz3 h.1
    obtain ⟨k, rfl, hk⟩ := shv_int u32 h.2.1
    obtain ⟨m, rfl, hm⟩ := shv_int u32 h.2.2.1
    exact law4 (by have := wf_u16 hk; omega) (by have := wf_u16 hm; omega)
  | [], h => h.elim
  | [_], h => h.2.elim
  | [_, _], h => h.2.2.elim
  | _ :: _ :: _ :: _ :: _, h => h.2.2.2.elim
theorem law5_law : ∀ xs, ShL Tryd.prog Tryd.f5.params.toList xs → PC Tryd.prog 5 xs (.lit (.bool true))
  | [x, y], h => by
    obtain ⟨a, rfl, _⟩ := shv_arr h.1
    obtain ⟨b, rfl, _⟩ := shv_arr h.2.1
    exact law5
  | [], h => h.elim
  | [_], h => h.2.elim
  | _ :: _ :: _ :: _, h => h.2.2.elim
theorem law6_law : ∀ xs, ShL Tryd.prog Tryd.f6.params.toList xs → PC Tryd.prog 6 xs (.lit (.bool true))
  | [x, y, z], h => by
    obtain ⟨a, rfl, _⟩ := shv_arr h.1
    obtain ⟨ix, rfl, _⟩ := shv_ints u22 u3 sz3 h.2.1
    obtain ⟨n, rfl, _⟩ := shv_int u3 h.2.2.1
    exact law6
  | [], h => h.elim
  | [_], h => h.2.elim
  | [_, _], h => h.2.2.elim
  | _ :: _ :: _ :: _ :: _, h => h.2.2.2.elim
theorem u34' : Tryd.prog.underlying 45 = some (.array 2 32) := by kernel_rfl
theorem shv_two {x : AV} {t e : TypeId} (ht : Tryd.prog.underlying t = some (.array 2 e)) (he : Tryd.prog.underlying e = some (.int .u16)) (h : ShV Tryd.prog t x) : ∃ k m, x = .agg [.lit (.int .u16 k), .lit (.int .u16 m)] ∧ (0 ≤ k ∧ k < 65536) ∧ 0 ≤ m ∧ m < 65536 := by
  obtain ⟨c, rfl, hc⟩ := shv_agg (by simp [aggT, ht]) h
  obtain ⟨xss, rfl, hl, hx⟩ := sh_array ht hc
  match xss, hl with
  | [p, q], _ =>
    obtain ⟨k, rfl, hk⟩ := sh_int he (hx p (by simp))
    obtain ⟨m, rfl, hm⟩ := sh_int he (hx q (by simp))
    exact ⟨k, m, rfl, wf_u16 hk, wf_u16 hm⟩
theorem law7_law : ∀ xs, ShL Tryd.prog Tryd.f7.params.toList xs → PC Tryd.prog 7 xs (.lit (.bool true))
  | [x, y, z], h => by
    obtain ⟨a, rfl, _⟩ := shv_arr h.1
    obtain ⟨k, m, rfl, hk, hm⟩ := shv_two u34' u32 h.2.1
    obtain ⟨n, rfl, _⟩ := shv_int u3 h.2.2.1
    exact law7 hk hm
  | [], h => h.elim
  | [_], h => h.2.elim
  | [_, _], h => h.2.2.elim
  | _ :: _ :: _ :: _ :: _, h => h.2.2.2.elim
end Go.Proofs.YtjlcbojpiieafaaDoor
