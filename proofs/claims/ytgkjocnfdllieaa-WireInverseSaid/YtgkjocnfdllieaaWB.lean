/- The walk of the reading of an integer. -/
import Derived.Test.YtgkjocnfdllieaaWA

set_option linter.all false

namespace Go.Proofs.Ytgkjocnfdllieaa
open Go Go.Fw

noncomputable def con66 := chgCon 66 (.inl rfl)
noncomputable def con67 := chgCon 67 (.inr rfl)
theorem con66_f : con66.f = 66 := rfl
theorem con67_f : con67.f = 67 := rfl
theorem con66_c (c : Int) : con66.c [.lit (.int .u8 c)] = some (True, .lit (.int .u8 (chg 66 c))) := rfl
theorem con67_c (c : Int) : con67.c [.lit (.int .u8 c)] = some (True, .lit (.int .u8 (chg 67 c))) := rfl
noncomputable def E7 : Env := envOf (P := Try.prog) zer (fun _ => false) (fun _ => false) [con66, con67] []
theorem E7_ok : EnvOk Try.prog E7 := envOk zer_ok

theorem whole_nil {b : Bool} : PC Try.prog 62 [.sl b 1 (ints .u8 [])] (decV (dec [])) := by
  refine pc_of E7_ok mixed (fun _ => [0, 2, 3, 4, 5, 6, 7, 8, 9, 10, 11, 14, 25, 28, 37, 41, 42, 43, 44, 60, 67, 80]) Try.func62 rfl (by kernel_rfl) (Nat.le_of_ble_eq_true rfl) ?_
  simp only [initF_cons, initF_nil, Nat.reduceAdd]
  refine t_name fun KF => ?_
  unfold E7
  repeat' (first
    | with_reducible refine t_seq fun K => ?_
    | with_reducible refine t_block ?_
    | with_reducible refine t_scope ?_
    | with_reducible refine t_label ?_
    | with_reducible refine t_skip ?_
    | with_reducible refine t_exit ?_
    | with_reducible refine t_ret ?_
    | with_reducible refine t_k ?_
    | (with_reducible refine t_gF ?_)
    | ((first | with_reducible refine t_kE ?_ | with_reducible refine t_kD ?_ | with_reducible refine t_gS ?_ | with_reducible refine t_kL ?_ | (with_reducible refine t_kLE ?_ ?_; rotate_left) | with_reducible refine t_region fun K => ?_ | with_reducible refine t_draw (by kernel_rfl) fun K => ?_); simp only [go_sem, Int.cast_ofNat_Int, Nat.reduceEqDiff, reduceIte, Nat.reduceAdd, Nat.reduceMul, Nat.reduceLeDiff, Nat.reduceSub, Nat.reduceLT, Nat.zero_lt_succ, Int.reduceToNat, Int.reduceAdd, Int.reduceSub, Int.reduceMul, Int.reduceNeg, Int.reduceLT, Int.reduceLE, Int.reduceEq, Int.reduceBEq, Int.reduceBNe, Nat.reduceBEq, List.reduceReplicate, ints_nil])
    | (with_reducible exact kp_nil)
    | (with_reducible exact Kp.refl _)
    | (with_reducible exact kp_to)
    | (with_reducible refine kp_cons ?_)
    | (with_reducible refine kp_arr ?_)
    | (with_reducible refine kp_app ?_)
    | ((with_reducible refine t_cond fun A B => ?_); simp only [go_sem, Int.cast_ofNat_Int, Nat.reduceEqDiff, reduceIte, Nat.reduceAdd, Nat.reduceMul, Nat.reduceLeDiff, Nat.reduceSub, Nat.reduceLT, Nat.zero_lt_succ, Int.reduceToNat, Int.reduceAdd, Int.reduceSub, Int.reduceMul, Int.reduceNeg, Int.reduceLT, Int.reduceLE, Int.reduceEq, Int.reduceBEq, Int.reduceBNe, Nat.reduceBEq, List.reduceReplicate, ints_nil]; first | (with_reducible refine A.h ?_) | (with_reducible refine B.h ?_) | refine And.intro (fun hc => A.h ?_) (fun hc => B.h ?_))
    | simp only [thenQ_n, thenQ_r, thenQ_e, blockQ_n, blockQ_r, blockQ_e, scopeQ_n, scopeQ_r, scopeQ_e, Nat.reduceEqDiff, reduceIte]
    | (with_reducible refine And.intro ?_ ?_)
    | with_reducible intro vr)
  refine end_ret rfl ?_
  simp only [fin, go_sem, Int.cast_ofNat_Int, Nat.reduceEqDiff, reduceIte, Nat.reduceAdd, Nat.reduceMul, Nat.reduceLeDiff, Nat.reduceSub, Nat.reduceLT, Nat.zero_lt_succ, Int.reduceToNat, Int.reduceAdd, Int.reduceSub, Int.reduceMul, Int.reduceNeg, Int.reduceLT, Int.reduceLE, Int.reduceEq, Int.reduceBEq, Int.reduceBNe, Nat.reduceBEq, List.reduceReplicate]
  exact LeA.refl _
theorem whole_mid {b : Bool} {c : Int} {t : List Int} (hc1 : ¬ c ≥ 248) (hc2 : ¬ c ≤ 7) (h0 : 0 ≤ c ∧ c < 256) (hl : t.length ≤ 900000) : PC Try.prog 62 [.sl b 1 (ints .u8 (c :: t))] (decV (dec (c :: t))) := by
  have hg : (ints .u8 (c :: t)).getD 0 .top = .lit (.int .u8 c) := rfl
  have hd1 : decide (c ≥ 248) = false := by simp; omega
  have hd2 : decide (c ≤ 7) = false := by simp; omega
  have hz : (((t.length + 1 : Nat) : Int) == 0) = false := by simp; omega
  have hw : IntKind.i64.wrap c = c := wrap_i64 (by unfold inI64; omega)
  refine pc_of E7_ok mixed (fun _ => [0, 2, 3, 4, 5, 6, 7, 8, 9, 10, 11, 14, 25, 28, 37, 41, 42, 43, 44, 60, 67, 80]) Try.func62 rfl (by kernel_rfl) (Nat.le_of_ble_eq_true rfl) ?_
  simp only [initF_cons, initF_nil, Nat.reduceAdd]
  refine t_name fun KF => ?_
  unfold E7
  repeat' (first
    | with_reducible refine t_seq fun K => ?_
    | with_reducible refine t_block ?_
    | with_reducible refine t_scope ?_
    | with_reducible refine t_label ?_
    | with_reducible refine t_skip ?_
    | with_reducible refine t_exit ?_
    | with_reducible refine t_ret ?_
    | with_reducible refine t_k ?_
    | (with_reducible refine t_gF ?_)
    | ((first | with_reducible refine t_kE ?_ | with_reducible refine t_kD ?_ | with_reducible refine t_gS ?_ | with_reducible refine t_kL ?_ | (with_reducible refine t_kLE ?_ ?_; rotate_left) | with_reducible refine t_region fun K => ?_ | with_reducible refine t_draw (by kernel_rfl) fun K => ?_); simp only [go_sem, Int.cast_ofNat_Int, Nat.reduceEqDiff, reduceIte, Nat.reduceAdd, Nat.reduceMul, Nat.reduceLeDiff, Nat.reduceSub, Nat.reduceLT, Nat.zero_lt_succ, Int.reduceToNat, Int.reduceAdd, Int.reduceSub, Int.reduceMul, Int.reduceNeg, Int.reduceLT, Int.reduceLE, Int.reduceEq, Int.reduceBEq, Int.reduceBNe, Nat.reduceBEq, List.reduceReplicate, hg, hz, hw, hd1, hd2])
    | (with_reducible exact kp_nil)
    | (with_reducible exact Kp.refl _)
    | (with_reducible exact kp_to)
    | (with_reducible refine kp_cons ?_)
    | (with_reducible refine kp_arr ?_)
    | (with_reducible refine kp_app ?_)
    | ((with_reducible refine t_cond fun A B => ?_); simp only [go_sem, Int.cast_ofNat_Int, Nat.reduceEqDiff, reduceIte, Nat.reduceAdd, Nat.reduceMul, Nat.reduceLeDiff, Nat.reduceSub, Nat.reduceLT, Nat.zero_lt_succ, Int.reduceToNat, Int.reduceAdd, Int.reduceSub, Int.reduceMul, Int.reduceNeg, Int.reduceLT, Int.reduceLE, Int.reduceEq, Int.reduceBEq, Int.reduceBNe, Nat.reduceBEq, List.reduceReplicate, hg, hz, hw, hd1, hd2]; first | (with_reducible refine A.h ?_) | (with_reducible refine B.h ?_) | refine And.intro (fun hc => A.h ?_) (fun hc => B.h ?_))
    | simp only [thenQ_n, thenQ_r, thenQ_e, blockQ_n, blockQ_r, blockQ_e, scopeQ_n, scopeQ_r, scopeQ_e, Nat.reduceEqDiff, reduceIte]
    | (with_reducible refine And.intro ?_ ?_)
    | with_reducible intro vr)
  all_goals try (intros; (try simp only [Bool.and_eq_true, Bool.or_eq_true, Bool.not_eq_true', decide_eq_true_eq, decide_eq_false_iff_not, beq_iff_eq, bne_iff_ne, ne_eq, inI64, List.length_append] at *) <;> omega)
  refine end_ret rfl ?_
  simp only [fin, go_sem, Int.cast_ofNat_Int, Nat.reduceEqDiff, reduceIte, Nat.reduceAdd, Nat.reduceMul, Nat.reduceLeDiff, Nat.reduceSub, Nat.reduceLT, Nat.zero_lt_succ, Int.reduceToNat, Int.reduceAdd, Int.reduceSub, Int.reduceMul, Int.reduceNeg, Int.reduceLT, Int.reduceLE, Int.reduceEq, Int.reduceBEq, Int.reduceBNe, Nat.reduceBEq, List.reduceReplicate]
  simp only [dec, if_neg hc1, if_neg hc2, decV]
  refine LeA.tup ⟨LeA.refl _, LeA.slx ?_, LeA.refl _, trivial⟩
  rw [List.take_length]


theorem wrap_id64 {n : Int} (h : inI64 n) : IntKind.i64.wrap n = n := wrap_i64 h
theorem pow_le7 {n : Nat} (h : n ≤ 7) : (256 : Int) ^ n ≤ 72057594037927936 := by
  have : n = 0 ∨ n = 1 ∨ n = 2 ∨ n = 3 ∨ n = 4 ∨ n = 5 ∨ n = 6 ∨ n = 7 := by omega
  rcases this with rfl | rfl | rfl | rfl | rfl | rfl | rfl | rfl <;> simp
theorem head_map {g : Int → Int} {l : List Int} (h : 0 < l.length) : (l.map g).head? = some (g (l.getD 0 0)) := by
  cases l with
  | nil => simp at h
  | cons x l => rfl
theorem take_map_succ {g : Int → Int} {l : List Int} {j : Nat} (h : j < l.length) : (l.map g).take (j + 1) = (l.map g).take j ++ [g (l.getD j 0)] := by
  rw [List.take_add_one, List.getElem?_map]
  simp [List.getD, h]
theorem getD_mem' {l : List Int} {j : Nat} (h : j < l.length) : l.getD j 0 ∈ l := by simp [List.getD, h]
theorem decB_none {f : FuncId} {k : Nat} {t : List Int} (hk : 1 < k) (h : k ≤ t.length) (h0 : chg f ((t.take k).getD 0 0) = 0) : decB f k t = none := by
  rw [decB, if_neg (by omega), if_pos]
  refine ⟨?_, hk⟩
  rw [head_map (by simp; omega), h0]
theorem decB_big {f : FuncId} {k : Nat} {t : List Int} (h : k ≤ t.length) (hv : ¬ valOf ((t.take k).map (chg f)) ≤ 9223372036854775687) : decB f k t = none := by
  rw [decB, if_neg (by omega)]
  split
  · rfl
  · first | rfl | rw [if_neg hv]
theorem decB_some {f : FuncId} {k : Nat} {t : List Int} (hk : 1 ≤ k) (h : k ≤ t.length) (h0 : 1 ≤ k → 1 < k → ((t.take k).map (chg f)).head? ≠ some 0) (hv : valOf ((t.take k).map (chg f)) ≤ 9223372036854775687) :
    decB f k t = some (if f = 67 then -121 - valOf ((t.take k).map (chg f)) else valOf ((t.take k).map (chg f)) + 120, t.drop k) := by
  rw [decB, if_neg (by omega), if_neg (fun ⟨a, b⟩ => h0 hk b a), if_pos hv]
set_option maxHeartbeats 2000000 in
theorem whole_hi {b : Bool} {k : Nat} (hk1 : 1 ≤ k) (hk8 : k ≤ 8) {t : List Int} (hl : t.length ≤ 900000) (hb : ∀ x ∈ t, 0 ≤ x ∧ x < 256) : PC Try.prog 62 [.sl b 1 (ints .u8 ((247 + (k : Int)) :: t))] (decV (decB 66 k t)) := by
  have hg : (ints .u8 ((247 + (k : Int)) :: t)).getD 0 .top = .lit (.int .u8 (247 + (k : Int))) := rfl
  have hd1 : decide (247 + (k : Int) ≥ 248) = true := by simp; omega
  have he : 247 + (k : Int) - 247 = (k : Int) := by omega
  have hz : (((t.length + 1 : Nat) : Int) == 0) = false := by simp; omega
  have hw : IntKind.i64.wrap (247 + (k : Int)) = 247 + (k : Int) := wrap_i64 (by unfold inI64; omega)
  have hk : (1 + (k : Int)).toNat = k + 1 := by omega
  refine pc_of E7_ok mixed (fun _ => [0, 2, 3, 4, 5, 6, 7, 8, 9, 10, 11, 14, 25, 28, 37, 41, 42, 43, 44, 60, 67, 80]) Try.func62 rfl (by kernel_rfl) (Nat.le_of_ble_eq_true rfl) ?_
  simp only [initF_cons, initF_nil, Nat.reduceAdd]
  refine t_name fun KF => ?_
  unfold E7
  repeat' (first
    | with_reducible refine t_seq fun K => ?_
    | with_reducible refine t_block ?_
    | with_reducible refine t_scope ?_
    | with_reducible refine t_label ?_
    | with_reducible refine t_skip ?_
    | with_reducible refine t_exit ?_
    | with_reducible refine t_ret ?_
    | with_reducible refine t_k ?_
    | (with_reducible refine t_gF ?_)
    | ((first | with_reducible refine t_kE ?_ | with_reducible refine t_kD ?_ | with_reducible refine t_gS ?_ | with_reducible refine t_kL ?_ | (with_reducible refine t_kLE ?_ ?_; rotate_left) | with_reducible refine t_region fun K => ?_ | with_reducible refine t_draw (by kernel_rfl) fun K => ?_); simp only [go_sem, Int.cast_ofNat_Int, Nat.reduceEqDiff, reduceIte, Nat.reduceAdd, Nat.reduceMul, Nat.reduceLeDiff, Nat.reduceSub, Nat.reduceLT, Nat.zero_lt_succ, Int.reduceToNat, Int.reduceAdd, Int.reduceSub, Int.reduceMul, Int.reduceNeg, Int.reduceLT, Int.reduceLE, Int.reduceEq, Int.reduceBEq, Int.reduceBNe, Nat.reduceBEq, List.reduceReplicate, hg, hz, hw, hd1, he, hk])
    | (with_reducible exact kp_nil)
    | (with_reducible exact Kp.refl _)
    | (with_reducible exact kp_to)
    | (with_reducible refine kp_cons ?_)
    | (with_reducible refine kp_arr ?_)
    | (with_reducible refine kp_app ?_)
    | ((with_reducible refine t_cond fun A B => ?_); simp only [go_sem, Int.cast_ofNat_Int, Nat.reduceEqDiff, reduceIte, Nat.reduceAdd, Nat.reduceMul, Nat.reduceLeDiff, Nat.reduceSub, Nat.reduceLT, Nat.zero_lt_succ, Int.reduceToNat, Int.reduceAdd, Int.reduceSub, Int.reduceMul, Int.reduceNeg, Int.reduceLT, Int.reduceLE, Int.reduceEq, Int.reduceBEq, Int.reduceBNe, Nat.reduceBEq, List.reduceReplicate, hg, hz, hw, hd1, he, hk]; first | (with_reducible refine A.h ?_) | (with_reducible refine B.h ?_) | refine And.intro (fun hc => A.h ?_) (fun hc => B.h ?_))
    | simp only [thenQ_n, thenQ_r, thenQ_e, blockQ_n, blockQ_r, blockQ_e, scopeQ_n, scopeQ_r, scopeQ_e, Nat.reduceEqDiff, reduceIte]
    | (with_reducible refine And.intro ?_ ?_)
    | with_reducible intro vr)
  all_goals try (intros; (try simp only [Bool.and_eq_true, Bool.or_eq_true, Bool.not_eq_true', decide_eq_true_eq, decide_eq_false_iff_not, beq_iff_eq, bne_iff_ne, ne_eq, inI64, List.length_append] at *) <;> omega)
  · simp only [decide_eq_true_eq] at hc
    refine end_ret rfl ?_
    simp only [fin, go_sem, Int.cast_ofNat_Int, Nat.reduceEqDiff, reduceIte, Nat.reduceAdd, Nat.reduceMul, Nat.reduceLeDiff, Nat.reduceSub, Nat.reduceLT, Nat.zero_lt_succ, Int.reduceToNat, Int.reduceAdd, Int.reduceSub, Int.reduceMul, Int.reduceNeg, Int.reduceLT, Int.reduceLE, Int.reduceEq, Int.reduceBEq, Int.reduceBNe, Nat.reduceBEq, List.reduceReplicate]
    rw [decB, if_pos (by omega)]
    exact LeA.refl _
  · simp only [decide_eq_false_iff_not] at hc
    have hlen : (t.take k).length = k := by rw [List.length_take]; omega
    have hkt : k ≤ t.length := by omega
    have hbd : ∀ x ∈ (t.take k).map (chg 66), 0 ≤ x ∧ x < 256 := by
      intro x hx
      obtain ⟨y, hy, rfl⟩ := List.mem_map.1 hx
      exact chg_bd y (hb y (List.mem_of_mem_take hy))
    rw [hlen]
    refine t_loop (ι := { j : Nat // j ≤ k ∧ (1 ≤ j → 1 < k → ((t.take k).map (chg 66)).head? ≠ some 0) }) (fun j => ⟨upd (upd (upd (upd (upd (upd (upd (upd topF 43 (.lit (.int .i64 j.1))) 42 (.lit (.int .i64 k))) 41 (.sl false 1 (ints .u8 (t.take k)))) 9 (.lit (.int .u64 (valOf (((t.take k).map (chg 66)).take j.1))))) 8 (.lit (.bool false))) 7 (.lit (.int .i64 k))) 6 (.fn (.func 66) [] [])) 0 (.sl b 1 (ints .u8 ((247 + (k : Int)) :: t))), []⟩)
      (fun j => k - j.1) ⟨0, by omega, by omega⟩ ?_ ?_
    · skip
      (refine Le.frame ?_; repeat' (first | exact leF_top _ | (with_reducible refine leF_sl ?_ ?_) | (refine leF_upd (LeR.of_eq ?_) ?_))) <;> (try (simp only [go_sem, Int.cast_ofNat_Int, Nat.reduceEqDiff, reduceIte, Nat.reduceAdd, Nat.reduceMul, Nat.reduceLeDiff, Nat.reduceSub, Nat.reduceLT, Nat.zero_lt_succ, Int.reduceToNat, Int.reduceAdd, Int.reduceSub, Int.reduceMul, Int.reduceNeg, Int.reduceLT, Int.reduceLE, Int.reduceEq, Int.reduceBEq, Int.reduceBNe, Nat.reduceBEq, List.reduceReplicate]; try rfl))
    · rintro ⟨j, hj, hj0⟩ K0
      rcases Nat.lt_or_ge j k with hjk | hjk
      · have hgj : (ints .u8 (t.take k)).getD j .top = .lit (.int .u8 ((t.take k).getD j 0)) := ints_getD _ _ _ (by omega)
        have hcj : decide ((j : Int) < (k : Int)) = true := by simp; omega
        have hy := hbd (chg 66 ((t.take k).getD j 0)) (List.mem_map.2 ⟨_, getD_mem' (by omega), rfl⟩)
        repeat' (first
          | with_reducible refine t_seq fun K => ?_
          | with_reducible refine t_block ?_
          | with_reducible refine t_scope ?_
          | with_reducible refine t_label ?_
          | with_reducible refine t_skip ?_
          | with_reducible refine t_exit ?_
          | with_reducible refine t_ret ?_
          | with_reducible refine t_k ?_
          | (with_reducible refine t_gF ?_)
          | ((first | with_reducible refine t_kE ?_ | with_reducible refine t_kD ?_ | with_reducible refine t_gS ?_ | with_reducible refine t_kL ?_ | (with_reducible refine t_kLE ?_ ?_; rotate_left) | with_reducible refine t_region fun K => ?_ | with_reducible refine t_draw (by kernel_rfl) fun K => ?_); simp only [go_sem, Int.cast_ofNat_Int, Nat.reduceEqDiff, reduceIte, Nat.reduceAdd, Nat.reduceMul, Nat.reduceLeDiff, Nat.reduceSub, Nat.reduceLT, Nat.zero_lt_succ, Int.reduceToNat, Int.reduceAdd, Int.reduceSub, Int.reduceMul, Int.reduceNeg, Int.reduceLT, Int.reduceLE, Int.reduceEq, Int.reduceBEq, Int.reduceBNe, Nat.reduceBEq, List.reduceReplicate, con66_f, con67_f, con66_c, con67_c, hk, hgj, hcj])
          | (with_reducible exact kp_nil)
          | (with_reducible exact Kp.refl _)
          | (with_reducible exact kp_to)
          | (with_reducible refine kp_cons ?_)
          | (with_reducible refine kp_arr ?_)
          | (with_reducible refine kp_app ?_)
          | ((with_reducible refine t_cond fun A B => ?_); simp only [go_sem, Int.cast_ofNat_Int, Nat.reduceEqDiff, reduceIte, Nat.reduceAdd, Nat.reduceMul, Nat.reduceLeDiff, Nat.reduceSub, Nat.reduceLT, Nat.zero_lt_succ, Int.reduceToNat, Int.reduceAdd, Int.reduceSub, Int.reduceMul, Int.reduceNeg, Int.reduceLT, Int.reduceLE, Int.reduceEq, Int.reduceBEq, Int.reduceBNe, Nat.reduceBEq, List.reduceReplicate, con66_f, con67_f, con66_c, con67_c, hk, hgj, hcj]; first | (with_reducible refine A.h ?_) | (with_reducible refine B.h ?_) | refine And.intro (fun hc => A.h ?_) (fun hc => B.h ?_))
          | simp only [thenQ_n, thenQ_r, thenQ_e, blockQ_n, blockQ_r, blockQ_e, scopeQ_n, scopeQ_r, scopeQ_e, Nat.reduceEqDiff, reduceIte]
          | (with_reducible refine And.intro ?_ ?_)
          | with_reducible intro vr)
        all_goals try (intros; (try simp only [Bool.and_eq_true, Bool.or_eq_true, Bool.not_eq_true', decide_eq_true_eq, decide_eq_false_iff_not, beq_iff_eq, bne_iff_ne, ne_eq, inI64, List.length_append] at *) <;> omega)
        · simp only [Bool.and_eq_true, decide_eq_true_eq, beq_iff_eq] at hc
          have hj00 : j = 0 := by omega
          subst hj00
          refine end_ret rfl ?_
          simp only [fin, go_sem, Int.cast_ofNat_Int, Nat.reduceEqDiff, reduceIte, Nat.reduceAdd, Nat.reduceMul, Nat.reduceLeDiff, Nat.reduceSub, Nat.reduceLT, Nat.zero_lt_succ, Int.reduceToNat, Int.reduceAdd, Int.reduceSub, Int.reduceMul, Int.reduceNeg, Int.reduceLT, Int.reduceLE, Int.reduceEq, Int.reduceBEq, Int.reduceBNe, Nat.reduceBEq, List.reduceReplicate]
          rw [decB_none (by omega) hkt hc.1.2]
          exact LeA.refl _
        · have hcc : ¬ (j = 0 ∧ chg 66 ((t.take k).getD j 0) = 0 ∧ 1 < k) := by
            intro hn
            obtain ⟨e1, e2, e3⟩ := hn
            subst e1
            rw [e2] at hc
            simp at hc
            omega
          refine ⟨⟨j + 1, by omega, fun _ hk2 => ?_⟩, by simp only; omega, ?_⟩
          · by_cases h0 : j = 0
            · subst h0
              rw [head_map (by omega)]
              intro he2
              exact hcc ⟨rfl, by simpa using he2, hk2⟩
            · exact hj0 (by omega) hk2
          (refine Le.frame ?_; repeat' (first | exact leF_top _ | (with_reducible refine leF_sl ?_ ?_) | (refine leF_upd (LeR.of_eq ?_) ?_))) <;> (try (simp only [go_sem, Int.cast_ofNat_Int, Nat.reduceEqDiff, reduceIte, Nat.reduceAdd, Nat.reduceMul, Nat.reduceLeDiff, Nat.reduceSub, Nat.reduceLT, Nat.zero_lt_succ, Int.reduceToNat, Int.reduceAdd, Int.reduceSub, Int.reduceMul, Int.reduceNeg, Int.reduceLT, Int.reduceLE, Int.reduceEq, Int.reduceBEq, Int.reduceBNe, Nat.reduceBEq, List.reduceReplicate]; try rfl))
          have hv := valOf_bd (((t.take k).map (chg 66)).take j) (fun x hx => hbd x (List.mem_of_mem_take hx))
          have hle : (256 : Int) ^ (((t.take k).map (chg 66)).take j).length ≤ 72057594037927936 := pow_le7 (by simp; omega)
          rw [take_map_succ (by omega), valOf_snoc, wrap_u64, Int.emod_eq_of_lt (by omega) (by omega), or_byte hv.1 (by omega) hy.1 hy.2]
      · have hjk' : j = k := by omega
        subst hjk'
        have hcj : decide ((j : Int) < (j : Int)) = false := by simp
        have hall : ((t.take j).map (chg 66)).take j = (t.take j).map (chg 66) := List.take_of_length_le (by simp; omega)
        have hv := valOf_bd ((t.take j).map (chg 66)) hbd
        repeat' (first
          | with_reducible refine t_seq fun K => ?_
          | with_reducible refine t_block ?_
          | with_reducible refine t_scope ?_
          | with_reducible refine t_label ?_
          | with_reducible refine t_skip ?_
          | with_reducible refine t_exit ?_
          | with_reducible refine t_ret ?_
          | with_reducible refine t_k ?_
          | (with_reducible refine t_gF ?_)
          | ((first | with_reducible refine t_kE ?_ | with_reducible refine t_kD ?_ | with_reducible refine t_gS ?_ | with_reducible refine t_kL ?_ | (with_reducible refine t_kLE ?_ ?_; rotate_left) | with_reducible refine t_region fun K => ?_ | with_reducible refine t_draw (by kernel_rfl) fun K => ?_); simp only [go_sem, Int.cast_ofNat_Int, Nat.reduceEqDiff, reduceIte, Nat.reduceAdd, Nat.reduceMul, Nat.reduceLeDiff, Nat.reduceSub, Nat.reduceLT, Nat.zero_lt_succ, Int.reduceToNat, Int.reduceAdd, Int.reduceSub, Int.reduceMul, Int.reduceNeg, Int.reduceLT, Int.reduceLE, Int.reduceEq, Int.reduceBEq, Int.reduceBNe, Nat.reduceBEq, List.reduceReplicate, con66_f, con67_f, con66_c, con67_c, hk, hcj, hall])
          | (with_reducible exact kp_nil)
          | (with_reducible exact Kp.refl _)
          | (with_reducible exact kp_to)
          | (with_reducible refine kp_cons ?_)
          | (with_reducible refine kp_arr ?_)
          | (with_reducible refine kp_app ?_)
          | ((with_reducible refine t_cond fun A B => ?_); simp only [go_sem, Int.cast_ofNat_Int, Nat.reduceEqDiff, reduceIte, Nat.reduceAdd, Nat.reduceMul, Nat.reduceLeDiff, Nat.reduceSub, Nat.reduceLT, Nat.zero_lt_succ, Int.reduceToNat, Int.reduceAdd, Int.reduceSub, Int.reduceMul, Int.reduceNeg, Int.reduceLT, Int.reduceLE, Int.reduceEq, Int.reduceBEq, Int.reduceBNe, Nat.reduceBEq, List.reduceReplicate, con66_f, con67_f, con66_c, con67_c, hk, hcj, hall]; first | (with_reducible refine A.h ?_) | (with_reducible refine B.h ?_) | refine And.intro (fun hc => A.h ?_) (fun hc => B.h ?_))
          | simp only [thenQ_n, thenQ_r, thenQ_e, blockQ_n, blockQ_r, blockQ_e, scopeQ_n, scopeQ_r, scopeQ_e, Nat.reduceEqDiff, reduceIte]
          | (with_reducible refine And.intro ?_ ?_)
          | with_reducible intro vr)
        all_goals try (intros; (try simp only [Bool.and_eq_true, Bool.or_eq_true, Bool.not_eq_true', decide_eq_true_eq, decide_eq_false_iff_not, beq_iff_eq, bne_iff_ne, ne_eq, inI64, List.length_append] at *) <;> omega)
        · simp only [decide_eq_true_eq] at hc
          rw [wrap_i64 (by unfold inI64; omega)]
          unfold inI64; omega
        · simp only [decide_eq_true_eq] at hc
          refine end_ret rfl ?_
          simp only [fin, go_sem, Int.cast_ofNat_Int, Nat.reduceEqDiff, reduceIte, Nat.reduceAdd, Nat.reduceMul, Nat.reduceLeDiff, Nat.reduceSub, Nat.reduceLT, Nat.zero_lt_succ, Int.reduceToNat, Int.reduceAdd, Int.reduceSub, Int.reduceMul, Int.reduceNeg, Int.reduceLT, Int.reduceLE, Int.reduceEq, Int.reduceBEq, Int.reduceBNe, Nat.reduceBEq, List.reduceReplicate]
          rw [decB_some hk1 hkt hj0 hc, wrap_i64 (by unfold inI64; omega)]
          refine LeA.tup ⟨LeA.refl _, LeA.slx ?_, LeA.refl _, trivial⟩
          rw [List.take_length]
        · simp only [decide_eq_false_iff_not] at hc
          refine end_ret rfl ?_
          simp only [fin, go_sem, Int.cast_ofNat_Int, Nat.reduceEqDiff, reduceIte, Nat.reduceAdd, Nat.reduceMul, Nat.reduceLeDiff, Nat.reduceSub, Nat.reduceLT, Nat.zero_lt_succ, Int.reduceToNat, Int.reduceAdd, Int.reduceSub, Int.reduceMul, Int.reduceNeg, Int.reduceLT, Int.reduceLE, Int.reduceEq, Int.reduceBEq, Int.reduceBNe, Nat.reduceBEq, List.reduceReplicate]
          rw [decB_big hkt hc]
          exact LeA.refl _
set_option maxHeartbeats 2000000 in
theorem whole_lo {b : Bool} {k : Nat} (hk1 : 1 ≤ k) (hk8 : k ≤ 8) {t : List Int} (hl : t.length ≤ 900000) (hb : ∀ x ∈ t, 0 ≤ x ∧ x < 256) : PC Try.prog 62 [.sl b 1 (ints .u8 ((8 - (k : Int)) :: t))] (decV (decB 67 k t)) := by
  have hg : (ints .u8 ((8 - (k : Int)) :: t)).getD 0 .top = .lit (.int .u8 (8 - (k : Int))) := rfl
  have hd1 : decide (8 - (k : Int) ≥ 248) = false := by simp; omega
  have hd2 : decide (8 - (k : Int) ≤ 7) = true := by simp; omega
  have he : 8 - (8 - (k : Int)) = (k : Int) := by omega
  have hz : (((t.length + 1 : Nat) : Int) == 0) = false := by simp; omega
  have hw : IntKind.i64.wrap (8 - (k : Int)) = 8 - (k : Int) := wrap_i64 (by unfold inI64; omega)
  have hk : (1 + (k : Int)).toNat = k + 1 := by omega
  refine pc_of E7_ok mixed (fun _ => [0, 2, 3, 4, 5, 6, 7, 8, 9, 10, 11, 14, 25, 28, 37, 41, 42, 43, 44, 60, 67, 80]) Try.func62 rfl (by kernel_rfl) (Nat.le_of_ble_eq_true rfl) ?_
  simp only [initF_cons, initF_nil, Nat.reduceAdd]
  refine t_name fun KF => ?_
  unfold E7
  repeat' (first
    | with_reducible refine t_seq fun K => ?_
    | with_reducible refine t_block ?_
    | with_reducible refine t_scope ?_
    | with_reducible refine t_label ?_
    | with_reducible refine t_skip ?_
    | with_reducible refine t_exit ?_
    | with_reducible refine t_ret ?_
    | with_reducible refine t_k ?_
    | (with_reducible refine t_gF ?_)
    | ((first | with_reducible refine t_kE ?_ | with_reducible refine t_kD ?_ | with_reducible refine t_gS ?_ | with_reducible refine t_kL ?_ | (with_reducible refine t_kLE ?_ ?_; rotate_left) | with_reducible refine t_region fun K => ?_ | with_reducible refine t_draw (by kernel_rfl) fun K => ?_); simp only [go_sem, Int.cast_ofNat_Int, Nat.reduceEqDiff, reduceIte, Nat.reduceAdd, Nat.reduceMul, Nat.reduceLeDiff, Nat.reduceSub, Nat.reduceLT, Nat.zero_lt_succ, Int.reduceToNat, Int.reduceAdd, Int.reduceSub, Int.reduceMul, Int.reduceNeg, Int.reduceLT, Int.reduceLE, Int.reduceEq, Int.reduceBEq, Int.reduceBNe, Nat.reduceBEq, List.reduceReplicate, hg, hz, hw, hd1, hd2, he, hk])
    | (with_reducible exact kp_nil)
    | (with_reducible exact Kp.refl _)
    | (with_reducible exact kp_to)
    | (with_reducible refine kp_cons ?_)
    | (with_reducible refine kp_arr ?_)
    | (with_reducible refine kp_app ?_)
    | ((with_reducible refine t_cond fun A B => ?_); simp only [go_sem, Int.cast_ofNat_Int, Nat.reduceEqDiff, reduceIte, Nat.reduceAdd, Nat.reduceMul, Nat.reduceLeDiff, Nat.reduceSub, Nat.reduceLT, Nat.zero_lt_succ, Int.reduceToNat, Int.reduceAdd, Int.reduceSub, Int.reduceMul, Int.reduceNeg, Int.reduceLT, Int.reduceLE, Int.reduceEq, Int.reduceBEq, Int.reduceBNe, Nat.reduceBEq, List.reduceReplicate, hg, hz, hw, hd1, hd2, he, hk]; first | (with_reducible refine A.h ?_) | (with_reducible refine B.h ?_) | refine And.intro (fun hc => A.h ?_) (fun hc => B.h ?_))
    | simp only [thenQ_n, thenQ_r, thenQ_e, blockQ_n, blockQ_r, blockQ_e, scopeQ_n, scopeQ_r, scopeQ_e, Nat.reduceEqDiff, reduceIte]
    | (with_reducible refine And.intro ?_ ?_)
    | with_reducible intro vr)
  all_goals try (intros; (try simp only [Bool.and_eq_true, Bool.or_eq_true, Bool.not_eq_true', decide_eq_true_eq, decide_eq_false_iff_not, beq_iff_eq, bne_iff_ne, ne_eq, inI64, List.length_append] at *) <;> omega)
  · simp only [decide_eq_true_eq] at hc
    refine end_ret rfl ?_
    simp only [fin, go_sem, Int.cast_ofNat_Int, Nat.reduceEqDiff, reduceIte, Nat.reduceAdd, Nat.reduceMul, Nat.reduceLeDiff, Nat.reduceSub, Nat.reduceLT, Nat.zero_lt_succ, Int.reduceToNat, Int.reduceAdd, Int.reduceSub, Int.reduceMul, Int.reduceNeg, Int.reduceLT, Int.reduceLE, Int.reduceEq, Int.reduceBEq, Int.reduceBNe, Nat.reduceBEq, List.reduceReplicate]
    rw [decB, if_pos (by omega)]
    exact LeA.refl _
  · simp only [decide_eq_false_iff_not] at hc
    have hlen : (t.take k).length = k := by rw [List.length_take]; omega
    have hkt : k ≤ t.length := by omega
    have hbd : ∀ x ∈ (t.take k).map (chg 67), 0 ≤ x ∧ x < 256 := by
      intro x hx
      obtain ⟨y, hy, rfl⟩ := List.mem_map.1 hx
      exact chg_bd y (hb y (List.mem_of_mem_take hy))
    rw [hlen]
    refine t_loop (ι := { j : Nat // j ≤ k ∧ (1 ≤ j → 1 < k → ((t.take k).map (chg 67)).head? ≠ some 0) }) (fun j => ⟨upd (upd (upd (upd (upd (upd (upd (upd topF 43 (.lit (.int .i64 j.1))) 42 (.lit (.int .i64 k))) 41 (.sl false 1 (ints .u8 (t.take k)))) 9 (.lit (.int .u64 (valOf (((t.take k).map (chg 67)).take j.1))))) 8 (.lit (.bool true))) 7 (.lit (.int .i64 k))) 6 (.fn (.func 67) [] [])) 0 (.sl b 1 (ints .u8 ((8 - (k : Int)) :: t))), []⟩)
      (fun j => k - j.1) ⟨0, by omega, by omega⟩ ?_ ?_
    · skip
      (refine Le.frame ?_; repeat' (first | exact leF_top _ | (with_reducible refine leF_sl ?_ ?_) | (refine leF_upd (LeR.of_eq ?_) ?_))) <;> (try (simp only [go_sem, Int.cast_ofNat_Int, Nat.reduceEqDiff, reduceIte, Nat.reduceAdd, Nat.reduceMul, Nat.reduceLeDiff, Nat.reduceSub, Nat.reduceLT, Nat.zero_lt_succ, Int.reduceToNat, Int.reduceAdd, Int.reduceSub, Int.reduceMul, Int.reduceNeg, Int.reduceLT, Int.reduceLE, Int.reduceEq, Int.reduceBEq, Int.reduceBNe, Nat.reduceBEq, List.reduceReplicate]; try rfl))
    · rintro ⟨j, hj, hj0⟩ K0
      rcases Nat.lt_or_ge j k with hjk | hjk
      · have hgj : (ints .u8 (t.take k)).getD j .top = .lit (.int .u8 ((t.take k).getD j 0)) := ints_getD _ _ _ (by omega)
        have hcj : decide ((j : Int) < (k : Int)) = true := by simp; omega
        have hy := hbd (chg 67 ((t.take k).getD j 0)) (List.mem_map.2 ⟨_, getD_mem' (by omega), rfl⟩)
        repeat' (first
          | with_reducible refine t_seq fun K => ?_
          | with_reducible refine t_block ?_
          | with_reducible refine t_scope ?_
          | with_reducible refine t_label ?_
          | with_reducible refine t_skip ?_
          | with_reducible refine t_exit ?_
          | with_reducible refine t_ret ?_
          | with_reducible refine t_k ?_
          | (with_reducible refine t_gF ?_)
          | ((first | with_reducible refine t_kE ?_ | with_reducible refine t_kD ?_ | with_reducible refine t_gS ?_ | with_reducible refine t_kL ?_ | (with_reducible refine t_kLE ?_ ?_; rotate_left) | with_reducible refine t_region fun K => ?_ | with_reducible refine t_draw (by kernel_rfl) fun K => ?_); simp only [go_sem, Int.cast_ofNat_Int, Nat.reduceEqDiff, reduceIte, Nat.reduceAdd, Nat.reduceMul, Nat.reduceLeDiff, Nat.reduceSub, Nat.reduceLT, Nat.zero_lt_succ, Int.reduceToNat, Int.reduceAdd, Int.reduceSub, Int.reduceMul, Int.reduceNeg, Int.reduceLT, Int.reduceLE, Int.reduceEq, Int.reduceBEq, Int.reduceBNe, Nat.reduceBEq, List.reduceReplicate, con66_f, con67_f, con66_c, con67_c, hk, hgj, hcj])
          | (with_reducible exact kp_nil)
          | (with_reducible exact Kp.refl _)
          | (with_reducible exact kp_to)
          | (with_reducible refine kp_cons ?_)
          | (with_reducible refine kp_arr ?_)
          | (with_reducible refine kp_app ?_)
          | ((with_reducible refine t_cond fun A B => ?_); simp only [go_sem, Int.cast_ofNat_Int, Nat.reduceEqDiff, reduceIte, Nat.reduceAdd, Nat.reduceMul, Nat.reduceLeDiff, Nat.reduceSub, Nat.reduceLT, Nat.zero_lt_succ, Int.reduceToNat, Int.reduceAdd, Int.reduceSub, Int.reduceMul, Int.reduceNeg, Int.reduceLT, Int.reduceLE, Int.reduceEq, Int.reduceBEq, Int.reduceBNe, Nat.reduceBEq, List.reduceReplicate, con66_f, con67_f, con66_c, con67_c, hk, hgj, hcj]; first | (with_reducible refine A.h ?_) | (with_reducible refine B.h ?_) | refine And.intro (fun hc => A.h ?_) (fun hc => B.h ?_))
          | simp only [thenQ_n, thenQ_r, thenQ_e, blockQ_n, blockQ_r, blockQ_e, scopeQ_n, scopeQ_r, scopeQ_e, Nat.reduceEqDiff, reduceIte]
          | (with_reducible refine And.intro ?_ ?_)
          | with_reducible intro vr)
        all_goals try (intros; (try simp only [Bool.and_eq_true, Bool.or_eq_true, Bool.not_eq_true', decide_eq_true_eq, decide_eq_false_iff_not, beq_iff_eq, bne_iff_ne, ne_eq, inI64, List.length_append] at *) <;> omega)
        · simp only [Bool.and_eq_true, decide_eq_true_eq, beq_iff_eq] at hc
          have hj00 : j = 0 := by omega
          subst hj00
          refine end_ret rfl ?_
          simp only [fin, go_sem, Int.cast_ofNat_Int, Nat.reduceEqDiff, reduceIte, Nat.reduceAdd, Nat.reduceMul, Nat.reduceLeDiff, Nat.reduceSub, Nat.reduceLT, Nat.zero_lt_succ, Int.reduceToNat, Int.reduceAdd, Int.reduceSub, Int.reduceMul, Int.reduceNeg, Int.reduceLT, Int.reduceLE, Int.reduceEq, Int.reduceBEq, Int.reduceBNe, Nat.reduceBEq, List.reduceReplicate]
          rw [decB_none (by omega) hkt hc.1.2]
          exact LeA.refl _
        · have hcc : ¬ (j = 0 ∧ chg 67 ((t.take k).getD j 0) = 0 ∧ 1 < k) := by
            intro hn
            obtain ⟨e1, e2, e3⟩ := hn
            subst e1
            rw [e2] at hc
            simp at hc
            omega
          refine ⟨⟨j + 1, by omega, fun _ hk2 => ?_⟩, by simp only; omega, ?_⟩
          · by_cases h0 : j = 0
            · subst h0
              rw [head_map (by omega)]
              intro he2
              exact hcc ⟨rfl, by simpa using he2, hk2⟩
            · exact hj0 (by omega) hk2
          (refine Le.frame ?_; repeat' (first | exact leF_top _ | (with_reducible refine leF_sl ?_ ?_) | (refine leF_upd (LeR.of_eq ?_) ?_))) <;> (try (simp only [go_sem, Int.cast_ofNat_Int, Nat.reduceEqDiff, reduceIte, Nat.reduceAdd, Nat.reduceMul, Nat.reduceLeDiff, Nat.reduceSub, Nat.reduceLT, Nat.zero_lt_succ, Int.reduceToNat, Int.reduceAdd, Int.reduceSub, Int.reduceMul, Int.reduceNeg, Int.reduceLT, Int.reduceLE, Int.reduceEq, Int.reduceBEq, Int.reduceBNe, Nat.reduceBEq, List.reduceReplicate]; try rfl))
          have hv := valOf_bd (((t.take k).map (chg 67)).take j) (fun x hx => hbd x (List.mem_of_mem_take hx))
          have hle : (256 : Int) ^ (((t.take k).map (chg 67)).take j).length ≤ 72057594037927936 := pow_le7 (by simp; omega)
          rw [take_map_succ (by omega), valOf_snoc, wrap_u64, Int.emod_eq_of_lt (by omega) (by omega), or_byte hv.1 (by omega) hy.1 hy.2]
      · have hjk' : j = k := by omega
        subst hjk'
        have hcj : decide ((j : Int) < (j : Int)) = false := by simp
        have hall : ((t.take j).map (chg 67)).take j = (t.take j).map (chg 67) := List.take_of_length_le (by simp; omega)
        have hv := valOf_bd ((t.take j).map (chg 67)) hbd
        repeat' (first
          | with_reducible refine t_seq fun K => ?_
          | with_reducible refine t_block ?_
          | with_reducible refine t_scope ?_
          | with_reducible refine t_label ?_
          | with_reducible refine t_skip ?_
          | with_reducible refine t_exit ?_
          | with_reducible refine t_ret ?_
          | with_reducible refine t_k ?_
          | (with_reducible refine t_gF ?_)
          | ((first | with_reducible refine t_kE ?_ | with_reducible refine t_kD ?_ | with_reducible refine t_gS ?_ | with_reducible refine t_kL ?_ | (with_reducible refine t_kLE ?_ ?_; rotate_left) | with_reducible refine t_region fun K => ?_ | with_reducible refine t_draw (by kernel_rfl) fun K => ?_); simp only [go_sem, Int.cast_ofNat_Int, Nat.reduceEqDiff, reduceIte, Nat.reduceAdd, Nat.reduceMul, Nat.reduceLeDiff, Nat.reduceSub, Nat.reduceLT, Nat.zero_lt_succ, Int.reduceToNat, Int.reduceAdd, Int.reduceSub, Int.reduceMul, Int.reduceNeg, Int.reduceLT, Int.reduceLE, Int.reduceEq, Int.reduceBEq, Int.reduceBNe, Nat.reduceBEq, List.reduceReplicate, con66_f, con67_f, con66_c, con67_c, hk, hcj, hall])
          | (with_reducible exact kp_nil)
          | (with_reducible exact Kp.refl _)
          | (with_reducible exact kp_to)
          | (with_reducible refine kp_cons ?_)
          | (with_reducible refine kp_arr ?_)
          | (with_reducible refine kp_app ?_)
          | ((with_reducible refine t_cond fun A B => ?_); simp only [go_sem, Int.cast_ofNat_Int, Nat.reduceEqDiff, reduceIte, Nat.reduceAdd, Nat.reduceMul, Nat.reduceLeDiff, Nat.reduceSub, Nat.reduceLT, Nat.zero_lt_succ, Int.reduceToNat, Int.reduceAdd, Int.reduceSub, Int.reduceMul, Int.reduceNeg, Int.reduceLT, Int.reduceLE, Int.reduceEq, Int.reduceBEq, Int.reduceBNe, Nat.reduceBEq, List.reduceReplicate, con66_f, con67_f, con66_c, con67_c, hk, hcj, hall]; first | (with_reducible refine A.h ?_) | (with_reducible refine B.h ?_) | refine And.intro (fun hc => A.h ?_) (fun hc => B.h ?_))
          | simp only [thenQ_n, thenQ_r, thenQ_e, blockQ_n, blockQ_r, blockQ_e, scopeQ_n, scopeQ_r, scopeQ_e, Nat.reduceEqDiff, reduceIte]
          | (with_reducible refine And.intro ?_ ?_)
          | with_reducible intro vr)
        all_goals try (intros; (try simp only [Bool.and_eq_true, Bool.or_eq_true, Bool.not_eq_true', decide_eq_true_eq, decide_eq_false_iff_not, beq_iff_eq, bne_iff_ne, ne_eq, inI64, List.length_append] at *) <;> omega)
        · simp only [decide_eq_true_eq] at hc
          rw [wrap_i64 (by unfold inI64; omega)]
          unfold inI64; omega
        · simp only [decide_eq_true_eq] at hc
          refine end_ret rfl ?_
          simp only [fin, go_sem, Int.cast_ofNat_Int, Nat.reduceEqDiff, reduceIte, Nat.reduceAdd, Nat.reduceMul, Nat.reduceLeDiff, Nat.reduceSub, Nat.reduceLT, Nat.zero_lt_succ, Int.reduceToNat, Int.reduceAdd, Int.reduceSub, Int.reduceMul, Int.reduceNeg, Int.reduceLT, Int.reduceLE, Int.reduceEq, Int.reduceBEq, Int.reduceBNe, Nat.reduceBEq, List.reduceReplicate]
          rw [decB_some hk1 hkt hj0 hc, wrap_i64 (by unfold inI64; omega)]
          refine LeA.tup ⟨LeA.refl _, LeA.slx ?_, LeA.refl _, trivial⟩
          rw [List.take_length]
        · simp only [decide_eq_false_iff_not] at hc
          refine end_ret rfl ?_
          simp only [fin, go_sem, Int.cast_ofNat_Int, Nat.reduceEqDiff, reduceIte, Nat.reduceAdd, Nat.reduceMul, Nat.reduceLeDiff, Nat.reduceSub, Nat.reduceLT, Nat.zero_lt_succ, Int.reduceToNat, Int.reduceAdd, Int.reduceSub, Int.reduceMul, Int.reduceNeg, Int.reduceLT, Int.reduceLE, Int.reduceEq, Int.reduceBEq, Int.reduceBNe, Nat.reduceBEq, List.reduceReplicate]
          rw [decB_big hkt hc]
          exact LeA.refl _
end Go.Proofs.Ytgkjocnfdllieaa

/- A source of the program. -/
namespace Go.Proofs.Ytgkjocnfdllieaa
open Go Go.Fw

/-- A source: the bytes left and the error. -/
def src (l : List Int) (e : Int) : AObj := .box 26 [.sl false 1 (ints .u8 l), .lit (.int .i64 e)]
def okL (l : List Int) : Prop := l.length ≤ 900000 ∧ ∀ x ∈ l, 0 ≤ x ∧ x < 256

noncomputable def wholeCon : PCon Try.prog where
  f := 62
  c := fun
    | [x] => (slK .u8 x).map fun l => (okL l, decV (dec l))
    | _ => none
  ok := by
    intro args p r hc hp
    split at hc
    · rename_i x
      cases hx : slK .u8 x with
      | none => rw [hx] at hc; cases hc
      | some l =>
        rw [hx] at hc
        cases hc
        refine PC.weak (bs := [.sl false 1 (ints .u8 l)]) ?_ ⟨slK_le hx, trivial⟩
        cases l with
        | nil => exact whole_nil
        | cons c t =>
          have h0 := hp.2 c (by simp)
          have hl : t.length ≤ 900000 := by have := hp.1; simp at this; omega
          have hb : ∀ x ∈ t, 0 ≤ x ∧ x < 256 := fun x hx => hp.2 x (by simp [hx])
          by_cases h1 : c ≥ 248
          · rw [dec, if_pos h1]
            have e : c = 247 + ((c - 247).toNat : Int) := by omega
            have := whole_hi (b := false) (k := (c - 247).toNat) (by omega) (by omega) hl hb
            rwa [← e] at this
          · by_cases h2 : c ≤ 7
            · rw [dec, if_neg h1, if_pos h2]
              have e : c = 8 - ((8 - c).toNat : Int) := by omega
              have := whole_lo (b := false) (k := (8 - c).toNat) (by omega) (by omega) hl hb
              rwa [← e] at this
            · exact whole_mid h1 h2 h0 hl
    · cases hc
  fk := fk62
theorem wholeCon_f : wholeCon.f = 62 := rfl
theorem wholeCon_c {x : AV} : wholeCon.c [x] = (slK .u8 x).map fun l => (okL l, decV (dec l)) := rfl

noncomputable def E8 : Env := envOf (P := Try.prog) zer (fun _ => false) (fun _ => false) [] []
theorem E8_ok : EnvOk Try.prog E8 := envOk zer_ok
theorem fail_ec {σ : List AObj} {o : Nat} {l : List Int} {e0 e : Int} (ho : σ[o]? = some (src l e0)) {k : AV → List AObj → Prop} (hk : k (.tup []) (σ.set o (src l (if e0 = 0 then e else e0)))) : EC Try.prog 63 [.ref o 0, .lit (.int .i64 e)] σ k := by
  unfold src at ho hk
  refine ec_of E8_ok mixed (fun _ => [0, 1, 8]) Try.func63 rfl (by kernel_rfl) (Nat.le_of_ble_eq_true rfl) ?_
  simp only [initF_cons, initF_nil, Nat.reduceAdd]
  refine t_name fun KF => ?_
  unfold E8
  repeat' (first
    | with_reducible refine t_seq fun K => ?_
    | with_reducible refine t_block ?_
    | with_reducible refine t_scope ?_
    | with_reducible refine t_label ?_
    | with_reducible refine t_skip ?_
    | with_reducible refine t_exit ?_
    | with_reducible refine t_ret ?_
    | with_reducible refine t_k ?_
    | (with_reducible refine t_gF ?_)
    | ((first | with_reducible refine t_kE ?_ | with_reducible refine t_kD ?_ | with_reducible refine t_gS ?_ | with_reducible refine t_kL ?_ | (with_reducible refine t_kLE ?_ ?_; rotate_left) | with_reducible refine t_region fun K => ?_ | with_reducible refine t_draw (by kernel_rfl) fun K => ?_); simp only [go_sem, Int.cast_ofNat_Int, Nat.reduceEqDiff, reduceIte, Nat.reduceAdd, Nat.reduceMul, Nat.reduceLeDiff, Nat.reduceSub, Nat.reduceLT, Nat.zero_lt_succ, Int.reduceToNat, Int.reduceAdd, Int.reduceSub, Int.reduceMul, Int.reduceNeg, Int.reduceLT, Int.reduceLE, Int.reduceEq, Int.reduceBEq, Int.reduceBNe, Nat.reduceBEq, List.reduceReplicate, ho, get_set ho])
    | (with_reducible exact kp_nil)
    | (with_reducible exact Kp.refl _)
    | (with_reducible exact kp_to)
    | (with_reducible refine kp_cons ?_)
    | (with_reducible refine kp_arr ?_)
    | (with_reducible refine kp_app ?_)
    | ((with_reducible refine t_cond fun A B => ?_); simp only [go_sem, Int.cast_ofNat_Int, Nat.reduceEqDiff, reduceIte, Nat.reduceAdd, Nat.reduceMul, Nat.reduceLeDiff, Nat.reduceSub, Nat.reduceLT, Nat.zero_lt_succ, Int.reduceToNat, Int.reduceAdd, Int.reduceSub, Int.reduceMul, Int.reduceNeg, Int.reduceLT, Int.reduceLE, Int.reduceEq, Int.reduceBEq, Int.reduceBNe, Nat.reduceBEq, List.reduceReplicate, ho, get_set ho]; first | (with_reducible refine A.h ?_) | (with_reducible refine B.h ?_) | refine And.intro (fun hc => A.h ?_) (fun hc => B.h ?_))
    | simp only [thenQ_n, thenQ_r, thenQ_e, blockQ_n, blockQ_r, blockQ_e, scopeQ_n, scopeQ_r, scopeQ_e, Nat.reduceEqDiff, reduceIte]
    | (with_reducible refine And.intro ?_ ?_)
    | with_reducible intro vr)
  all_goals try (intros; (try simp only [Bool.and_eq_true, Bool.or_eq_true, Bool.not_eq_true', decide_eq_true_eq, decide_eq_false_iff_not, beq_iff_eq, bne_iff_ne, ne_eq, inI64, List.length_append] at *) <;> omega)
  · simp only [beq_iff_eq] at hc
    rw [if_pos hc] at hk
    exact end_norm rfl hk
  · simp only [beq_eq_false_iff_ne] at hc
    rw [if_neg hc, set_same ho] at hk
    exact end_norm rfl hk
/-- What may be asked of an own source. -/
def srcAt (σ : List AObj) (o : Nat) (p : List AObj → List Int → Int → Prop) : Prop := withB 26 σ o fun σ' cs => match cs with
  | [.sl false 1 xs, .lit (.int .i64 e)] => withK .u8 xs fun l => p σ' l e
  | _ => False
theorem srcAt_inv {σ : List AObj} {o : Nat} {p : List AObj → List Int → Int → Prop} (h : srcAt σ o p) : ∃ σ' l e, Fw.clB σ o = some σ' ∧ σ'[o]? = some (src l e) ∧ p σ' l e := by
  obtain ⟨σ', cs, h1, h2, h3⟩ := withB_inv h
  split at h3
  · obtain ⟨l, rfl, h4⟩ := withK_inv h3
    exact ⟨σ', l, _, h1, h2, h4⟩
  · exact h3.elim
theorem ids_src {l : List Int} {e : Int} : [AV.sl false 1 (ints .u8 l), AV.lit (.int .i64 e)].flatMap ids0 = [] := rfl
/-- A source in its own form already. -/
theorem clB_src {σ : List AObj} {o : Nat} {l : List Int} {e : Int} (ho : σ[o]? = some (src l e)) : Fw.clB σ o = some σ := by
  unfold Fw.clB
  rw [ho]
  have ho' := ho
  unfold src at ho'
  simp only [src, ids_src, freezeL, List.foldl_nil, closeL0, close0, List.map_cons, List.map_nil, wk]
  rw [set_same ho']
theorem srcAt_src {σ : List AObj} {o : Nat} {l : List Int} {e : Int} (ho : σ[o]? = some (src l e)) {p : List AObj → List Int → Int → Prop} : srcAt σ o p = p σ l e := by
  unfold srcAt withB
  rw [clB_src ho]
  simp only [ho, src, true_and, withK_ints]

noncomputable def failCon : ECon Try.prog where
  f := 63
  c := fun args σ k => match args with
    | [.ref o 0, .lit (.int .i64 e)] => srcAt σ o fun σ' l e0 => k (.tup []) (σ'.set o (src l (if e0 = 0 then e else e0)))
    | _ => False
  ok := by
    intro args σ k h
    split at h
    · obtain ⟨σ', l, e0, h1, h2, h3⟩ := srcAt_inv h
      exact EC.clB h1 (fail_ec h2 h3)
    · exact h.elim
  fk := fk63
theorem failCon_f : failCon.f = 63 := rfl
theorem failCon_c {σ : List AObj} {k : AV → List AObj → Prop} {o : Nat} {e : Int} : failCon.c [.ref o 0, .lit (.int .i64 e)] σ k = srcAt σ o fun σ' l e0 => k (.tup []) (σ'.set o (src l (if e0 = 0 then e else e0))) := rfl

/-- What the reading of a number yields: the number, what is left and the error. -/
def numS (l : List Int) (e0 lo hi e : Int) : Int × List Int × Int :=
  if e0 ≠ 0 then (0, l, e0) else match dec l with
    | none => (0, l, 4)
    | some (n, r) => if n < lo ∨ hi < n then (0, l, e) else (n, r, 0)
noncomputable def E9 : Env := envOf (P := Try.prog) zer (fun _ => false) (fun _ => false) [wholeCon] [failCon]
theorem E9_ok : EnvOk Try.prog E9 := envOk zer_ok
set_option maxHeartbeats 800000 in
theorem number_ec {σ : List AObj} {o : Nat} {l : List Int} {e0 lo hi e : Int} (ho : σ[o]? = some (src l e0)) (hl : okL l) {k : AV → List AObj → Prop}
    (hk : k (.lit (.int .i64 (numS l e0 lo hi e).1)) (σ.set o (src (numS l e0 lo hi e).2.1 (numS l e0 lo hi e).2.2))) : EC Try.prog 37 [.ref o 0, .lit (.int .i64 lo), .lit (.int .i64 hi), .lit (.int .i64 e)] σ k := by
  unfold numS at hk
  have hf : ∀ {p}, srcAt σ o p = p σ l e0 := srcAt_src ho
  have ho' := ho
  unfold src at ho'
  by_cases h0 : e0 = 0
  · rw [if_neg (by omega)] at hk
    subst h0
    cases hd : dec l with
    | none =>
      simp only [hd] at hk
      refine ec_of E9_ok mixed (fun _ => [0, 1, 2, 3, 8, 9, 10, 11, 16, 26, 31]) Try.func37 rfl (by kernel_rfl) (Nat.le_of_ble_eq_true rfl) ?_
      simp only [initF_cons, initF_nil, Nat.reduceAdd]
      refine t_name fun KF => ?_
      unfold E9
      repeat' (first
        | with_reducible refine t_seq fun K => ?_
        | with_reducible refine t_block ?_
        | with_reducible refine t_scope ?_
        | with_reducible refine t_label ?_
        | with_reducible refine t_skip ?_
        | with_reducible refine t_exit ?_
        | with_reducible refine t_ret ?_
        | with_reducible refine t_k ?_
        | (with_reducible refine t_gF ?_)
        | ((first | with_reducible refine t_kE ?_ | with_reducible refine t_kD ?_ | with_reducible refine t_gS ?_ | with_reducible refine t_kL ?_ | (with_reducible refine t_kLE ?_ ?_; rotate_left) | with_reducible refine t_region fun K => ?_ | with_reducible refine t_draw (by kernel_rfl) fun K => ?_); simp only [go_sem, Int.cast_ofNat_Int, Nat.reduceEqDiff, reduceIte, Nat.reduceAdd, Nat.reduceMul, Nat.reduceLeDiff, Nat.reduceSub, Nat.reduceLT, Nat.zero_lt_succ, Int.reduceToNat, Int.reduceAdd, Int.reduceSub, Int.reduceMul, Int.reduceNeg, Int.reduceLT, Int.reduceLE, Int.reduceEq, Int.reduceBEq, Int.reduceBNe, Nat.reduceBEq, List.reduceReplicate, ho', get_set ho, wholeCon_f, wholeCon_c, failCon_f, failCon_c, hd, decV, hf, hl])
        | (with_reducible exact kp_nil)
        | (with_reducible exact Kp.refl _)
        | (with_reducible exact kp_to)
        | (with_reducible refine kp_cons ?_)
        | (with_reducible refine kp_arr ?_)
        | (with_reducible refine kp_app ?_)
        | ((with_reducible refine t_cond fun A B => ?_); simp only [go_sem, Int.cast_ofNat_Int, Nat.reduceEqDiff, reduceIte, Nat.reduceAdd, Nat.reduceMul, Nat.reduceLeDiff, Nat.reduceSub, Nat.reduceLT, Nat.zero_lt_succ, Int.reduceToNat, Int.reduceAdd, Int.reduceSub, Int.reduceMul, Int.reduceNeg, Int.reduceLT, Int.reduceLE, Int.reduceEq, Int.reduceBEq, Int.reduceBNe, Nat.reduceBEq, List.reduceReplicate, ho', get_set ho, wholeCon_f, wholeCon_c, failCon_f, failCon_c, hd, decV, hf, hl]; first | (with_reducible refine A.h ?_) | (with_reducible refine B.h ?_) | refine And.intro (fun hc => A.h ?_) (fun hc => B.h ?_))
        | simp only [thenQ_n, thenQ_r, thenQ_e, blockQ_n, blockQ_r, blockQ_e, scopeQ_n, scopeQ_r, scopeQ_e, Nat.reduceEqDiff, reduceIte]
        | (with_reducible refine And.intro ?_ ?_)
        | with_reducible intro vr)
      exact end_ret rfl hk
    | some nr =>
      obtain ⟨n, r⟩ := nr
      simp only [hd] at hk
      refine ec_of E9_ok mixed (fun _ => [0, 1, 2, 3, 8, 9, 10, 11, 16, 26, 31]) Try.func37 rfl (by kernel_rfl) (Nat.le_of_ble_eq_true rfl) ?_
      simp only [initF_cons, initF_nil, Nat.reduceAdd]
      refine t_name fun KF => ?_
      unfold E9
      repeat' (first
        | with_reducible refine t_seq fun K => ?_
        | with_reducible refine t_block ?_
        | with_reducible refine t_scope ?_
        | with_reducible refine t_label ?_
        | with_reducible refine t_skip ?_
        | with_reducible refine t_exit ?_
        | with_reducible refine t_ret ?_
        | with_reducible refine t_k ?_
        | (with_reducible refine t_gF ?_)
        | ((first | with_reducible refine t_kE ?_ | with_reducible refine t_kD ?_ | with_reducible refine t_gS ?_ | with_reducible refine t_kL ?_ | (with_reducible refine t_kLE ?_ ?_; rotate_left) | with_reducible refine t_region fun K => ?_ | with_reducible refine t_draw (by kernel_rfl) fun K => ?_); simp only [go_sem, Int.cast_ofNat_Int, Nat.reduceEqDiff, reduceIte, Nat.reduceAdd, Nat.reduceMul, Nat.reduceLeDiff, Nat.reduceSub, Nat.reduceLT, Nat.zero_lt_succ, Int.reduceToNat, Int.reduceAdd, Int.reduceSub, Int.reduceMul, Int.reduceNeg, Int.reduceLT, Int.reduceLE, Int.reduceEq, Int.reduceBEq, Int.reduceBNe, Nat.reduceBEq, List.reduceReplicate, ho', get_set ho, wholeCon_f, wholeCon_c, failCon_f, failCon_c, hd, decV, hf, hl])
        | (with_reducible exact kp_nil)
        | (with_reducible exact Kp.refl _)
        | (with_reducible exact kp_to)
        | (with_reducible refine kp_cons ?_)
        | (with_reducible refine kp_arr ?_)
        | (with_reducible refine kp_app ?_)
        | ((with_reducible refine t_cond fun A B => ?_); simp only [go_sem, Int.cast_ofNat_Int, Nat.reduceEqDiff, reduceIte, Nat.reduceAdd, Nat.reduceMul, Nat.reduceLeDiff, Nat.reduceSub, Nat.reduceLT, Nat.zero_lt_succ, Int.reduceToNat, Int.reduceAdd, Int.reduceSub, Int.reduceMul, Int.reduceNeg, Int.reduceLT, Int.reduceLE, Int.reduceEq, Int.reduceBEq, Int.reduceBNe, Nat.reduceBEq, List.reduceReplicate, ho', get_set ho, wholeCon_f, wholeCon_c, failCon_f, failCon_c, hd, decV, hf, hl]; first | (with_reducible refine A.h ?_) | (with_reducible refine B.h ?_) | refine And.intro (fun hc => A.h ?_) (fun hc => B.h ?_))
        | simp only [thenQ_n, thenQ_r, thenQ_e, blockQ_n, blockQ_r, blockQ_e, scopeQ_n, scopeQ_r, scopeQ_e, Nat.reduceEqDiff, reduceIte]
        | (with_reducible refine And.intro ?_ ?_)
        | with_reducible intro vr)
      all_goals try (intros; (try simp only [Bool.and_eq_true, Bool.or_eq_true, Bool.not_eq_true', decide_eq_true_eq, decide_eq_false_iff_not, beq_iff_eq, bne_iff_ne, ne_eq, inI64, List.length_append] at *) <;> omega)
      · simp only [Bool.or_eq_true, Bool.and_eq_true, Bool.not_eq_true', decide_eq_true_eq, decide_eq_false_iff_not] at hc
        rw [if_pos (by omega)] at hk
        exact end_ret rfl hk
      · simp only [Bool.or_eq_false_iff, Bool.and_eq_false_iff, Bool.not_eq_false', decide_eq_true_eq, decide_eq_false_iff_not] at hc
        rw [if_neg (by omega)] at hk
        exact end_ret rfl hk
  · rw [if_pos h0] at hk
    have hz : (e0 != 0) = true := by simpa using h0
    refine ec_of E9_ok mixed (fun _ => [0, 1, 2, 3, 8, 9, 10, 11, 16, 26, 31]) Try.func37 rfl (by kernel_rfl) (Nat.le_of_ble_eq_true rfl) ?_
    simp only [initF_cons, initF_nil, Nat.reduceAdd]
    refine t_name fun KF => ?_
    unfold E9
    repeat' (first
      | with_reducible refine t_seq fun K => ?_
      | with_reducible refine t_block ?_
      | with_reducible refine t_scope ?_
      | with_reducible refine t_label ?_
      | with_reducible refine t_skip ?_
      | with_reducible refine t_exit ?_
      | with_reducible refine t_ret ?_
      | with_reducible refine t_k ?_
      | (with_reducible refine t_gF ?_)
      | ((first | with_reducible refine t_kE ?_ | with_reducible refine t_kD ?_ | with_reducible refine t_gS ?_ | with_reducible refine t_kL ?_ | (with_reducible refine t_kLE ?_ ?_; rotate_left) | with_reducible refine t_region fun K => ?_ | with_reducible refine t_draw (by kernel_rfl) fun K => ?_); simp only [go_sem, Int.cast_ofNat_Int, Nat.reduceEqDiff, reduceIte, Nat.reduceAdd, Nat.reduceMul, Nat.reduceLeDiff, Nat.reduceSub, Nat.reduceLT, Nat.zero_lt_succ, Int.reduceToNat, Int.reduceAdd, Int.reduceSub, Int.reduceMul, Int.reduceNeg, Int.reduceLT, Int.reduceLE, Int.reduceEq, Int.reduceBEq, Int.reduceBNe, Nat.reduceBEq, List.reduceReplicate, ho', get_set ho, hz])
      | (with_reducible exact kp_nil)
      | (with_reducible exact Kp.refl _)
      | (with_reducible exact kp_to)
      | (with_reducible refine kp_cons ?_)
      | (with_reducible refine kp_arr ?_)
      | (with_reducible refine kp_app ?_)
      | ((with_reducible refine t_cond fun A B => ?_); simp only [go_sem, Int.cast_ofNat_Int, Nat.reduceEqDiff, reduceIte, Nat.reduceAdd, Nat.reduceMul, Nat.reduceLeDiff, Nat.reduceSub, Nat.reduceLT, Nat.zero_lt_succ, Int.reduceToNat, Int.reduceAdd, Int.reduceSub, Int.reduceMul, Int.reduceNeg, Int.reduceLT, Int.reduceLE, Int.reduceEq, Int.reduceBEq, Int.reduceBNe, Nat.reduceBEq, List.reduceReplicate, ho', get_set ho, hz]; first | (with_reducible refine A.h ?_) | (with_reducible refine B.h ?_) | refine And.intro (fun hc => A.h ?_) (fun hc => B.h ?_))
      | simp only [thenQ_n, thenQ_r, thenQ_e, blockQ_n, blockQ_r, blockQ_e, scopeQ_n, scopeQ_r, scopeQ_e, Nat.reduceEqDiff, reduceIte]
      | (with_reducible refine And.intro ?_ ?_)
      | with_reducible intro vr)
    exact end_ret rfl (by rw [set_same ho] at hk; exact hk)
noncomputable def numCon : ECon Try.prog where
  f := 37
  c := fun args σ k => match args with
    | [.ref o 0, .lit (.int .i64 lo), .lit (.int .i64 hi), .lit (.int .i64 e)] => srcAt σ o fun σ' l e0 => okL l ∧ k (.lit (.int .i64 (numS l e0 lo hi e).1)) (σ'.set o (src (numS l e0 lo hi e).2.1 (numS l e0 lo hi e).2.2))
    | _ => False
  ok := by
    intro args σ k h
    split at h
    · obtain ⟨σ', l, e0, h1, h2, h3, h4⟩ := srcAt_inv h
      exact EC.clB h1 (number_ec h2 h3 h4)
    · exact h.elim
  fk := fk37
theorem numCon_f : numCon.f = 37 := rfl
theorem numCon_c {σ : List AObj} {k : AV → List AObj → Prop} {o : Nat} {lo hi e : Int} : numCon.c [.ref o 0, .lit (.int .i64 lo), .lit (.int .i64 hi), .lit (.int .i64 e)] σ k =
  srcAt σ o fun σ' l e0 => okL l ∧ k (.lit (.int .i64 (numS l e0 lo hi e).1)) (σ'.set o (src (numS l e0 lo hi e).2.1 (numS l e0 lo hi e).2.2)) := rfl

noncomputable def E10 : Env := envOf (P := Try.prog) zer (fun _ => false) (fun _ => false) [] [numCon]
theorem E10_ok : EnvOk Try.prog E10 := envOk zer_ok
/-- The body of Source.Int. -/
theorem int1_ec {σ : List AObj} {o a b : Nat} {l : List Int} {e0 lo hi : Int} (ho : σ[o]? = some (src l e0)) (ha : σ[a]? = some (.box 3 [.lit (.int .i64 lo)])) (hb : σ[b]? = some (.box 3 [.lit (.int .i64 hi)])) (hl : okL l) {k : AV → List AObj → Prop}
    (hk : k (.lit (.int .i64 (numS l e0 lo hi 2).1)) (σ.set o (src (numS l e0 lo hi 2).2.1 (numS l e0 lo hi 2).2.2))) : EC Try.prog 36 [.ref o 0, .ref a 0, .ref b 0] σ k := by
  have hf : ∀ {p}, srcAt σ o p = p σ l e0 := srcAt_src ho
  refine ec_of E10_ok mixed (fun _ => [0, 1, 2, 4]) Try.func36 rfl (by kernel_rfl) (Nat.le_of_ble_eq_true rfl) ?_
  simp only [initF_cons, initF_nil, Nat.reduceAdd]
  refine t_name fun KF => ?_
  unfold E10
  repeat' (first
    | with_reducible refine t_seq fun K => ?_
    | with_reducible refine t_block ?_
    | with_reducible refine t_scope ?_
    | with_reducible refine t_label ?_
    | with_reducible refine t_skip ?_
    | with_reducible refine t_exit ?_
    | with_reducible refine t_ret ?_
    | with_reducible refine t_k ?_
    | (with_reducible refine t_gF ?_)
    | ((first | with_reducible refine t_kE ?_ | with_reducible refine t_kD ?_ | with_reducible refine t_gS ?_ | with_reducible refine t_kL ?_ | (with_reducible refine t_kLE ?_ ?_; rotate_left) | with_reducible refine t_region fun K => ?_ | with_reducible refine t_draw (by kernel_rfl) fun K => ?_); simp only [go_sem, Int.cast_ofNat_Int, Nat.reduceEqDiff, reduceIte, Nat.reduceAdd, Nat.reduceMul, Nat.reduceLeDiff, Nat.reduceSub, Nat.reduceLT, Nat.zero_lt_succ, Int.reduceToNat, Int.reduceAdd, Int.reduceSub, Int.reduceMul, Int.reduceNeg, Int.reduceLT, Int.reduceLE, Int.reduceEq, Int.reduceBEq, Int.reduceBNe, Nat.reduceBEq, List.reduceReplicate, ha, hb, numCon_f, numCon_c, hf, hl])
    | (with_reducible exact kp_nil)
    | (with_reducible exact Kp.refl _)
    | (with_reducible exact kp_to)
    | (with_reducible refine kp_cons ?_)
    | (with_reducible refine kp_arr ?_)
    | (with_reducible refine kp_app ?_)
    | ((with_reducible refine t_cond fun A B => ?_); simp only [go_sem, Int.cast_ofNat_Int, Nat.reduceEqDiff, reduceIte, Nat.reduceAdd, Nat.reduceMul, Nat.reduceLeDiff, Nat.reduceSub, Nat.reduceLT, Nat.zero_lt_succ, Int.reduceToNat, Int.reduceAdd, Int.reduceSub, Int.reduceMul, Int.reduceNeg, Int.reduceLT, Int.reduceLE, Int.reduceEq, Int.reduceBEq, Int.reduceBNe, Nat.reduceBEq, List.reduceReplicate, ha, hb, numCon_f, numCon_c, hf, hl]; first | (with_reducible refine A.h ?_) | (with_reducible refine B.h ?_) | refine And.intro (fun hc => A.h ?_) (fun hc => B.h ?_))
    | simp only [thenQ_n, thenQ_r, thenQ_e, blockQ_n, blockQ_r, blockQ_e, scopeQ_n, scopeQ_r, scopeQ_e, Nat.reduceEqDiff, reduceIte]
    | (with_reducible refine And.intro ?_ ?_)
    | with_reducible intro vr)
  exact end_ret rfl hk
end Go.Proofs.Ytgkjocnfdllieaa

/- The methods of a source of the program, as far as they read a number. -/
namespace Go.Proofs.Ytgkjocnfdllieaa
open Go Go.Fw

noncomputable def int1Con : ECon Try.prog where
  f := 36
  c := fun args σ k => match args with
    | [.ref o 0, .ref a 0, .ref b 0] => srcAt σ o fun σ' l e0 => match σ'[a]?, σ'[b]? with
      | some (.box 3 [.lit (.int .i64 lo)]), some (.box 3 [.lit (.int .i64 hi)]) => okL l ∧ k (.lit (.int .i64 (numS l e0 lo hi 2).1)) (σ'.set o (src (numS l e0 lo hi 2).2.1 (numS l e0 lo hi 2).2.2))
      | _, _ => False
    | _ => False
  ok := by
    intro args σ k h
    split at h
    · obtain ⟨σ', l, e0, h1, h2, h3⟩ := srcAt_inv h
      split at h3
      · rename_i ha hb
        exact EC.clB h1 (int1_ec h2 ha hb h3.1 h3.2)
      · exact h3.elim
    · exact h.elim
  fk := fk36
theorem int1Con_f : int1Con.f = 36 := rfl
theorem int1Con_c {σ : List AObj} {k : AV → List AObj → Prop} {o a b : Nat} : int1Con.c [.ref o 0, .ref a 0, .ref b 0] σ k = srcAt σ o fun σ' l e0 => match σ'[a]?, σ'[b]? with
      | some (.box 3 [.lit (.int .i64 lo)]), some (.box 3 [.lit (.int .i64 hi)]) => okL l ∧ k (.lit (.int .i64 (numS l e0 lo hi 2).1)) (σ'.set o (src (numS l e0 lo hi 2).2.1 (numS l e0 lo hi 2).2.2))
      | _, _ => False := rfl
theorem numS_err {l : List Int} {lo hi e : Int} (h : (numS l 0 lo hi e).2.2 ≠ 0) : numS l 0 lo hi e = (0, l, (numS l 0 lo hi e).2.2) := by
  unfold numS at *
  rw [if_neg (by omega)] at *
  cases hd : dec l with
  | none => rfl
  | some nr =>
    simp only [hd] at h ⊢
    split
    · rfl
    · rename_i hn; rw [if_neg hn] at h; exact absurd rfl h
theorem bds_src {n : Nat} {σ : List AObj} (h : BdS n σ) (o : Nat) (l : List Int) (e : Int) : BdS n (σ.set o (src l e)) := h.set o 26 (BdL.cons (Bd.sl _ _ _ _) (BdL.cons (Bd.lit _ _) BdL.nil))
noncomputable def E11 : Env := envOf (P := Try.prog) zer (fun _ => false) (fun _ => false) [] [int1Con]
theorem E11_ok : EnvOk Try.prog E11 := envOk zer_ok
set_option maxHeartbeats 800000 in
theorem run1_ec {σ : List AObj} {o a b : Nat} {l : List Int} {e0 lo hi : Int} (ho : σ[o]? = some (src l e0)) (ha : σ[a]? = some (.box 3 [.lit (.int .i64 lo)])) (hb : σ[b]? = some (.box 3 [.lit (.int .i64 hi)])) (hl : okL l) {k : AV → List AObj → Prop}
    (hk : k (.lit (.int .i64 (numS l e0 lo hi 2).1)) (σ.set o (src (numS l e0 lo hi 2).2.1 (numS l e0 lo hi 2).2.2))) : EC Try.prog 35 [.ref o 0, .fn (.func 36) [] [.ref a 0, .ref b 0]] σ k := by
  refine ec_fin fun hbd => ?_
  have ho' := ho
  unfold src at ho'
  by_cases h0 : e0 = 0
  · subst h0
    have hf : ∀ {p}, srcAt (σ ++ [.box 26 [.sl false 1 (ints .u8 l), .lit (.int .i64 0)]]) σ.length p = p (σ ++ [.box 26 [.sl false 1 (ints .u8 l), .lit (.int .i64 0)]]) l 0 := srcAt_src (getA0 rfl)
    refine ec_of E11_ok mixed (fun _ => [0, 1, 4, 5, 6, 7, 16, 27]) Try.func35 rfl (by kernel_rfl) (Nat.le_of_ble_eq_true rfl) ?_
    simp only [initF_cons, initF_nil, Nat.reduceAdd]
    refine t_name fun KF => ?_
    unfold E11
    repeat' (first
      | with_reducible refine t_seq fun K => ?_
      | with_reducible refine t_block ?_
      | with_reducible refine t_scope ?_
      | with_reducible refine t_label ?_
      | with_reducible refine t_skip ?_
      | with_reducible refine t_exit ?_
      | with_reducible refine t_ret ?_
      | with_reducible refine t_k ?_
      | (with_reducible refine t_gF ?_)
      | ((first | with_reducible refine t_kE ?_ | with_reducible refine t_kD ?_ | with_reducible refine t_gS ?_ | with_reducible refine t_kL ?_ | (with_reducible refine t_kLE ?_ ?_; rotate_left) | with_reducible refine t_region fun K => ?_ | with_reducible refine t_draw (by kernel_rfl) fun K => ?_); simp only [go_sem, Int.cast_ofNat_Int, Nat.reduceEqDiff, reduceIte, Nat.reduceAdd, Nat.reduceMul, Nat.reduceLeDiff, Nat.reduceSub, Nat.reduceLT, Nat.zero_lt_succ, Int.reduceToNat, Int.reduceAdd, Int.reduceSub, Int.reduceMul, Int.reduceNeg, Int.reduceLT, Int.reduceLE, Int.reduceEq, Int.reduceBEq, Int.reduceBNe, Nat.reduceBEq, List.reduceReplicate, ho', get_app_of ho', get_app_of ha, get_app_of hb, int1Con_f, int1Con_c, hf, hl, set_app_of ho', src])
      | (with_reducible exact kp_nil)
      | (with_reducible exact Kp.refl _)
      | (with_reducible exact kp_to)
      | (with_reducible refine kp_cons ?_)
      | (with_reducible refine kp_arr ?_)
      | (with_reducible refine kp_app ?_)
      | ((with_reducible refine t_cond fun A B => ?_); simp only [go_sem, Int.cast_ofNat_Int, Nat.reduceEqDiff, reduceIte, Nat.reduceAdd, Nat.reduceMul, Nat.reduceLeDiff, Nat.reduceSub, Nat.reduceLT, Nat.zero_lt_succ, Int.reduceToNat, Int.reduceAdd, Int.reduceSub, Int.reduceMul, Int.reduceNeg, Int.reduceLT, Int.reduceLE, Int.reduceEq, Int.reduceBEq, Int.reduceBNe, Nat.reduceBEq, List.reduceReplicate, ho', get_app_of ho', get_app_of ha, get_app_of hb, int1Con_f, int1Con_c, hf, hl, set_app_of ho', src]; first | (with_reducible refine A.h ?_) | (with_reducible refine B.h ?_) | refine And.intro (fun hc => A.h ?_) (fun hc => B.h ?_))
      | simp only [thenQ_n, thenQ_r, thenQ_e, blockQ_n, blockQ_r, blockQ_e, scopeQ_n, scopeQ_r, scopeQ_e, Nat.reduceEqDiff, reduceIte]
      | (with_reducible refine And.intro ?_ ?_)
      | with_reducible intro vr)
    · simp only [bne_iff_ne, ne_eq] at hc
      have he := numS_err hc
      refine end_ret rfl ?_
      simp only [finE, go_sem, Int.cast_ofNat_Int, Nat.reduceEqDiff, reduceIte, Nat.reduceAdd, Nat.reduceMul, Nat.reduceLeDiff, Nat.reduceSub, Nat.reduceLT, Nat.zero_lt_succ, Int.reduceToNat, Int.reduceAdd, Int.reduceSub, Int.reduceMul, Int.reduceNeg, Int.reduceLT, Int.reduceLE, Int.reduceEq, Int.reduceBEq, Int.reduceBNe, Nat.reduceBEq, List.reduceReplicate]
      refine ⟨_, _, rfl, LeA.refl _, bds_src hbd o _ _, ?_⟩
      rw [he] at hk
      exact hk
    · simp only [bne_eq_false_iff_eq] at hc
      refine end_ret rfl ?_
      simp only [finE, go_sem, Int.cast_ofNat_Int, Nat.reduceEqDiff, reduceIte, Nat.reduceAdd, Nat.reduceMul, Nat.reduceLeDiff, Nat.reduceSub, Nat.reduceLT, Nat.zero_lt_succ, Int.reduceToNat, Int.reduceAdd, Int.reduceSub, Int.reduceMul, Int.reduceNeg, Int.reduceLT, Int.reduceLE, Int.reduceEq, Int.reduceBEq, Int.reduceBNe, Nat.reduceBEq, List.reduceReplicate]
      refine ⟨_, _, rfl, LeA.refl _, bds_src hbd o _ _, ?_⟩
      rw [hc] at hk
      exact hk
  · have hz : (e0 != 0) = true := by simpa using h0
    refine ec_of E11_ok mixed (fun _ => [0, 1, 4, 5, 6, 7, 16, 27]) Try.func35 rfl (by kernel_rfl) (Nat.le_of_ble_eq_true rfl) ?_
    simp only [initF_cons, initF_nil, Nat.reduceAdd]
    refine t_name fun KF => ?_
    unfold E11
    repeat' (first
      | with_reducible refine t_seq fun K => ?_
      | with_reducible refine t_block ?_
      | with_reducible refine t_scope ?_
      | with_reducible refine t_label ?_
      | with_reducible refine t_skip ?_
      | with_reducible refine t_exit ?_
      | with_reducible refine t_ret ?_
      | with_reducible refine t_k ?_
      | (with_reducible refine t_gF ?_)
      | ((first | with_reducible refine t_kE ?_ | with_reducible refine t_kD ?_ | with_reducible refine t_gS ?_ | with_reducible refine t_kL ?_ | (with_reducible refine t_kLE ?_ ?_; rotate_left) | with_reducible refine t_region fun K => ?_ | with_reducible refine t_draw (by kernel_rfl) fun K => ?_); simp only [go_sem, Int.cast_ofNat_Int, Nat.reduceEqDiff, reduceIte, Nat.reduceAdd, Nat.reduceMul, Nat.reduceLeDiff, Nat.reduceSub, Nat.reduceLT, Nat.zero_lt_succ, Int.reduceToNat, Int.reduceAdd, Int.reduceSub, Int.reduceMul, Int.reduceNeg, Int.reduceLT, Int.reduceLE, Int.reduceEq, Int.reduceBEq, Int.reduceBNe, Nat.reduceBEq, List.reduceReplicate, ho', get_set ho, hz])
      | (with_reducible exact kp_nil)
      | (with_reducible exact Kp.refl _)
      | (with_reducible exact kp_to)
      | (with_reducible refine kp_cons ?_)
      | (with_reducible refine kp_arr ?_)
      | (with_reducible refine kp_app ?_)
      | ((with_reducible refine t_cond fun A B => ?_); simp only [go_sem, Int.cast_ofNat_Int, Nat.reduceEqDiff, reduceIte, Nat.reduceAdd, Nat.reduceMul, Nat.reduceLeDiff, Nat.reduceSub, Nat.reduceLT, Nat.zero_lt_succ, Int.reduceToNat, Int.reduceAdd, Int.reduceSub, Int.reduceMul, Int.reduceNeg, Int.reduceLT, Int.reduceLE, Int.reduceEq, Int.reduceBEq, Int.reduceBNe, Nat.reduceBEq, List.reduceReplicate, ho', get_set ho, hz]; first | (with_reducible refine A.h ?_) | (with_reducible refine B.h ?_) | refine And.intro (fun hc => A.h ?_) (fun hc => B.h ?_))
      | simp only [thenQ_n, thenQ_r, thenQ_e, blockQ_n, blockQ_r, blockQ_e, scopeQ_n, scopeQ_r, scopeQ_e, Nat.reduceEqDiff, reduceIte]
      | (with_reducible refine And.intro ?_ ?_)
      | with_reducible intro vr)
    refine end_ret rfl ?_
    simp only [finE, go_sem, Int.cast_ofNat_Int, Nat.reduceEqDiff, reduceIte, Nat.reduceAdd, Nat.reduceMul, Nat.reduceLeDiff, Nat.reduceSub, Nat.reduceLT, Nat.zero_lt_succ, Int.reduceToNat, Int.reduceAdd, Int.reduceSub, Int.reduceMul, Int.reduceNeg, Int.reduceLT, Int.reduceLE, Int.reduceEq, Int.reduceBEq, Int.reduceBNe, Nat.reduceBEq, List.reduceReplicate]
    refine ⟨_, _, rfl, LeA.refl _, by simpa using hbd, ?_⟩
    unfold numS at hk
    rw [if_pos h0, set_same ho] at hk
    simpa using hk
noncomputable def run1Con : ECon Try.prog where
  f := 35
  c := fun args σ k => match args with
    | [.ref o 0, .fn (.func 36) [] [.ref a 0, .ref b 0]] => srcAt σ o fun σ' l e0 => match σ'[a]?, σ'[b]? with
      | some (.box 3 [.lit (.int .i64 lo)]), some (.box 3 [.lit (.int .i64 hi)]) => okL l ∧ k (.lit (.int .i64 (numS l e0 lo hi 2).1)) (σ'.set o (src (numS l e0 lo hi 2).2.1 (numS l e0 lo hi 2).2.2))
      | _, _ => False
    | _ => False
  ok := by
    intro args σ k h
    split at h
    · obtain ⟨σ', l, e0, h1, h2, h3⟩ := srcAt_inv h
      split at h3
      · rename_i ha hb
        exact EC.clB h1 (run1_ec h2 ha hb h3.1 h3.2)
      · exact h3.elim
    · exact h.elim
  fk := fk35
theorem run1Con_f : run1Con.f = 35 := rfl
theorem run1Con_c {σ : List AObj} {k : AV → List AObj → Prop} {o a b : Nat} : run1Con.c [.ref o 0, .fn (.func 36) [] [.ref a 0, .ref b 0]] σ k = srcAt σ o fun σ' l e0 => match σ'[a]?, σ'[b]? with
      | some (.box 3 [.lit (.int .i64 lo)]), some (.box 3 [.lit (.int .i64 hi)]) => okL l ∧ k (.lit (.int .i64 (numS l e0 lo hi 2).1)) (σ'.set o (src (numS l e0 lo hi 2).2.1 (numS l e0 lo hi 2).2.2))
      | _, _ => False := rfl
noncomputable def E12 : Env := envOf (P := Try.prog) zer (fun _ => false) (fun _ => false) [] [run1Con]
theorem E12_ok : EnvOk Try.prog E12 := envOk zer_ok
theorem srcint_ec {σ : List AObj} {o : Nat} {l : List Int} {e0 lo hi : Int} (ho : σ[o]? = some (src l e0)) (hl : okL l) {k : AV → List AObj → Prop}
    (hk : k (.lit (.int .i64 (numS l e0 lo hi 2).1)) (σ.set o (src (numS l e0 lo hi 2).2.1 (numS l e0 lo hi 2).2.2))) : EC Try.prog 11 [.ref o 0, .lit (.int .i64 lo), .lit (.int .i64 hi)] σ k := by
  refine ec_fin fun hbd => ?_
  have hf : ∀ {m p}, srcAt (σ ++ m) o p = p (σ ++ m) l e0 := srcAt_src (get_app_of ho _)
  refine ec_of E12_ok mixed (fun _ => [0, 1, 2, 4, 5, 6]) Try.func11 rfl (by kernel_rfl) (Nat.le_of_ble_eq_true rfl) ?_
  simp only [initF_cons, initF_nil, Nat.reduceAdd]
  refine t_name fun KF => ?_
  unfold E12
  repeat' (first
    | with_reducible refine t_seq fun K => ?_
    | with_reducible refine t_block ?_
    | with_reducible refine t_scope ?_
    | with_reducible refine t_label ?_
    | with_reducible refine t_skip ?_
    | with_reducible refine t_exit ?_
    | with_reducible refine t_ret ?_
    | with_reducible refine t_k ?_
    | (with_reducible refine t_gF ?_)
    | ((first | with_reducible refine t_kE ?_ | with_reducible refine t_kD ?_ | with_reducible refine t_gS ?_ | with_reducible refine t_kL ?_ | (with_reducible refine t_kLE ?_ ?_; rotate_left) | with_reducible refine t_region fun K => ?_ | with_reducible refine t_draw (by kernel_rfl) fun K => ?_); simp only [go_sem, Int.cast_ofNat_Int, Nat.reduceEqDiff, reduceIte, Nat.reduceAdd, Nat.reduceMul, Nat.reduceLeDiff, Nat.reduceSub, Nat.reduceLT, Nat.zero_lt_succ, Int.reduceToNat, Int.reduceAdd, Int.reduceSub, Int.reduceMul, Int.reduceNeg, Int.reduceLT, Int.reduceLE, Int.reduceEq, Int.reduceBEq, Int.reduceBNe, Nat.reduceBEq, List.reduceReplicate, run1Con_f, run1Con_c, hf, hl, set_app_of ho])
    | (with_reducible exact kp_nil)
    | (with_reducible exact Kp.refl _)
    | (with_reducible exact kp_to)
    | (with_reducible refine kp_cons ?_)
    | (with_reducible refine kp_arr ?_)
    | (with_reducible refine kp_app ?_)
    | ((with_reducible refine t_cond fun A B => ?_); simp only [go_sem, Int.cast_ofNat_Int, Nat.reduceEqDiff, reduceIte, Nat.reduceAdd, Nat.reduceMul, Nat.reduceLeDiff, Nat.reduceSub, Nat.reduceLT, Nat.zero_lt_succ, Int.reduceToNat, Int.reduceAdd, Int.reduceSub, Int.reduceMul, Int.reduceNeg, Int.reduceLT, Int.reduceLE, Int.reduceEq, Int.reduceBEq, Int.reduceBNe, Nat.reduceBEq, List.reduceReplicate, run1Con_f, run1Con_c, hf, hl, set_app_of ho]; first | (with_reducible refine A.h ?_) | (with_reducible refine B.h ?_) | refine And.intro (fun hc => A.h ?_) (fun hc => B.h ?_))
    | simp only [thenQ_n, thenQ_r, thenQ_e, blockQ_n, blockQ_r, blockQ_e, scopeQ_n, scopeQ_r, scopeQ_e, Nat.reduceEqDiff, reduceIte]
    | (with_reducible refine And.intro ?_ ?_)
    | with_reducible intro vr)
  refine end_ret rfl ?_
  simp only [finE, go_sem, Int.cast_ofNat_Int, Nat.reduceEqDiff, reduceIte, Nat.reduceAdd, Nat.reduceMul, Nat.reduceLeDiff, Nat.reduceSub, Nat.reduceLT, Nat.zero_lt_succ, Int.reduceToNat, Int.reduceAdd, Int.reduceSub, Int.reduceMul, Int.reduceNeg, Int.reduceLT, Int.reduceLE, Int.reduceEq, Int.reduceBEq, Int.reduceBNe, Nat.reduceBEq, List.reduceReplicate]
  exact ⟨_, _, rfl, LeA.refl _, bds_src hbd o _ _, hk⟩
noncomputable def srcintCon : ECon Try.prog where
  f := 11
  c := fun args σ k => match args with
    | [.ref o 0, .lit (.int .i64 lo), .lit (.int .i64 hi)] => srcAt σ o fun σ' l e0 => okL l ∧ k (.lit (.int .i64 (numS l e0 lo hi 2).1)) (σ'.set o (src (numS l e0 lo hi 2).2.1 (numS l e0 lo hi 2).2.2))
    | _ => False
  ok := by
    intro args σ k h
    split at h
    · obtain ⟨σ', l, e0, h1, h2, h3, h4⟩ := srcAt_inv h
      exact EC.clB h1 (srcint_ec h2 h3 h4)
    · exact h.elim
  fk := fk11
theorem srcintCon_f : srcintCon.f = 11 := rfl
theorem srcintCon_c {σ : List AObj} {k : AV → List AObj → Prop} {o : Nat} {lo hi : Int} : srcintCon.c [.ref o 0, .lit (.int .i64 lo), .lit (.int .i64 hi)] σ k =
  srcAt σ o fun σ' l e0 => okL l ∧ k (.lit (.int .i64 (numS l e0 lo hi 2).1)) (σ'.set o (src (numS l e0 lo hi 2).2.1 (numS l e0 lo hi 2).2.2)) := rfl
theorem end_ec {σ : List AObj} {o : Nat} {l : List Int} {e0 : Int} (ho : σ[o]? = some (src l e0)) {k : AV → List AObj → Prop}
    (hk : k (.lit (.int .i64 (if e0 ≠ 0 then e0 else if l = [] then 0 else 4))) σ) : EC Try.prog 28 [.ref o 0] σ k := by
  unfold src at ho
  refine ec_of E8_ok mixed (fun _ => [0, 2, 3, 6, 16]) Try.func28 rfl (by kernel_rfl) (Nat.le_of_ble_eq_true rfl) ?_
  simp only [initF_cons, initF_nil, Nat.reduceAdd]
  refine t_name fun KF => ?_
  unfold E8
  repeat' (first
    | with_reducible refine t_seq fun K => ?_
    | with_reducible refine t_block ?_
    | with_reducible refine t_scope ?_
    | with_reducible refine t_label ?_
    | with_reducible refine t_skip ?_
    | with_reducible refine t_exit ?_
    | with_reducible refine t_ret ?_
    | with_reducible refine t_k ?_
    | (with_reducible refine t_gF ?_)
    | ((first | with_reducible refine t_kE ?_ | with_reducible refine t_kD ?_ | with_reducible refine t_gS ?_ | with_reducible refine t_kL ?_ | (with_reducible refine t_kLE ?_ ?_; rotate_left) | with_reducible refine t_region fun K => ?_ | with_reducible refine t_draw (by kernel_rfl) fun K => ?_); simp only [go_sem, Int.cast_ofNat_Int, Nat.reduceEqDiff, reduceIte, Nat.reduceAdd, Nat.reduceMul, Nat.reduceLeDiff, Nat.reduceSub, Nat.reduceLT, Nat.zero_lt_succ, Int.reduceToNat, Int.reduceAdd, Int.reduceSub, Int.reduceMul, Int.reduceNeg, Int.reduceLT, Int.reduceLE, Int.reduceEq, Int.reduceBEq, Int.reduceBNe, Nat.reduceBEq, List.reduceReplicate, ho])
    | (with_reducible exact kp_nil)
    | (with_reducible exact Kp.refl _)
    | (with_reducible exact kp_to)
    | (with_reducible refine kp_cons ?_)
    | (with_reducible refine kp_arr ?_)
    | (with_reducible refine kp_app ?_)
    | ((with_reducible refine t_cond fun A B => ?_); simp only [go_sem, Int.cast_ofNat_Int, Nat.reduceEqDiff, reduceIte, Nat.reduceAdd, Nat.reduceMul, Nat.reduceLeDiff, Nat.reduceSub, Nat.reduceLT, Nat.zero_lt_succ, Int.reduceToNat, Int.reduceAdd, Int.reduceSub, Int.reduceMul, Int.reduceNeg, Int.reduceLT, Int.reduceLE, Int.reduceEq, Int.reduceBEq, Int.reduceBNe, Nat.reduceBEq, List.reduceReplicate, ho]; first | (with_reducible refine A.h ?_) | (with_reducible refine B.h ?_) | refine And.intro (fun hc => A.h ?_) (fun hc => B.h ?_))
    | simp only [thenQ_n, thenQ_r, thenQ_e, blockQ_n, blockQ_r, blockQ_e, scopeQ_n, scopeQ_r, scopeQ_e, Nat.reduceEqDiff, reduceIte]
    | (with_reducible refine And.intro ?_ ?_)
    | with_reducible intro vr)
  · simp only [bne_iff_ne, ne_eq] at hc
    rw [if_pos hc] at hk
    exact end_ret rfl hk
  · simp only [bne_eq_false_iff_eq, decide_eq_true_eq] at *
    rw [if_neg (by omega), if_neg (by intro h; subst h; simp at hc)] at hk
    exact end_ret rfl hk
  · simp only [bne_eq_false_iff_eq, decide_eq_false_iff_not] at *
    rw [if_neg (by omega), if_pos (List.eq_nil_of_length_eq_zero (by omega))] at hk
    exact end_ret rfl hk
noncomputable def endCon : ECon Try.prog where
  f := 28
  c := fun args σ k => match args with
    | [.ref o 0] => srcAt σ o fun σ' l e0 => k (.lit (.int .i64 (if e0 ≠ 0 then e0 else if l = [] then 0 else 4))) σ'
    | _ => False
  ok := by
    intro args σ k h
    split at h
    · obtain ⟨σ', l, e0, h1, h2, h3⟩ := srcAt_inv h
      exact EC.clB h1 (end_ec h2 h3)
    · exact h.elim
  fk := fk28
theorem endCon_f : endCon.f = 28 := rfl
theorem endCon_c {σ : List AObj} {k : AV → List AObj → Prop} {o : Nat} : endCon.c [.ref o 0] σ k = srcAt σ o fun σ' l e0 => k (.lit (.int .i64 (if e0 ≠ 0 then e0 else if l = [] then 0 else 4))) σ' := rfl
end Go.Proofs.Ytgkjocnfdllieaa
