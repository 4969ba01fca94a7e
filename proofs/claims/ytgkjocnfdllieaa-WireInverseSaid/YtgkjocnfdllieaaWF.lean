/- The document's reading of an integer. -/
import Derived.Test.YtgkjocnfdllieaaWB
import Derived.Test.YtgkjocnfdllieaaWD
import Derived.Test.YtgkjocnfdllieaaWE

set_option linter.all false

namespace Go.Proofs.Ytgkjocnfdllieaa
open Go Go.Fw

theorem enc_hi_len {m : Int} (h : 0 ≤ m) : (enc (m + 120)).length = 1 + wid m := by
  unfold enc
  rw [if_pos (by omega), List.length_cons, be_length, show m + 120 - 120 = m by omega]; omega
theorem enc_lo_len {m : Int} (h : 0 ≤ m) : (enc (-121 - m)).length = 1 + wid m := by
  unfold enc
  rw [if_neg (by omega), if_pos (by omega), List.length_cons, List.length_map, be_length, show -(-121 - m + 121) = m by omega]; omega
/-- A leading zero makes for fewer bytes. -/
theorem wid_zero {xs : List Int} {k : Nat} (h : byt xs) (hl : xs.length = k) (h8 : k ≤ 8) (h0 : xs.head? = some 0) (hk : k > 1) : wid (valOf xs) ≠ k := by
  cases xs with
  | nil => simp at h0
  | cons x t =>
    simp only [List.head?_cons, Option.some.injEq] at h0
    subst h0
    rw [valOf_cons, Int.zero_mul, Int.zero_add]
    have hv := valOf_bd t fun y hy => h y (by simp [hy])
    have e : t.length = k - 1 := by simp at hl; omega
    rw [e] at hv
    have := wid_le (valOf t) (k - 1) (by omega) (by omega) hv.2
    omega
theorem decB_eq {f : FuncId} {k : Nat} {t : List Int} (h1 : 1 ≤ k) (h8 : k ≤ 8) (hkt : k ≤ t.length) (hb : byt ((t.take k).map (chg f))) : decB f k t =
    if valOf ((t.take k).map (chg f)) ≤ 9223372036854775687 ∧ wid (valOf ((t.take k).map (chg f))) = k then some (if f = 67 then -121 - valOf ((t.take k).map (chg f)) else valOf ((t.take k).map (chg f)) + 120, t.drop k) else none := by
  have hlen : ((t.take k).map (chg f)).length = k := by rw [List.length_map, List.length_take]; omega
  unfold decB
  rw [if_neg (by omega)]
  by_cases h0 : ((t.take k).map (chg f)).head? = some 0 ∧ k > 1
  · rw [if_pos h0, if_neg]
    intro hc
    exact wid_zero hb hlen h8 h0.1 h0.2 hc.2
  · rw [if_neg h0]
    have := val_wid hb hlen h1 h8 h0
    by_cases hv : valOf ((t.take k).map (chg f)) ≤ 9223372036854775687
    · rw [if_pos hv]; exact (if_pos ⟨hv, this⟩).symm
    · rw [if_neg hv]; exact (if_neg (fun hc => hv hc.1)).symm
noncomputable def E40 : Env := envOf (P := Try.prog) zer (fun _ => false) (fun _ => false) [con15] []
theorem E40_ok : EnvOk Try.prog E40 := envOk zer_ok
theorem intg_nil {b : Bool} : PC Try.prog 70 [.sl b 1 (ints .u8 [])] (decV (dec [])) := by
  refine pc_of E40_ok mixed (fun _ => [0, 2, 3, 4, 5, 6, 7, 8, 9, 10, 11, 14, 24, 32, 39, 42, 50, 59, 61, 66, 76]) Try.func70 rfl (by kernel_rfl) (Nat.le_of_ble_eq_true rfl) ?_
  simp only [initF_cons, initF_nil, Nat.reduceAdd]
  refine t_name fun KF => ?_
  unfold E40
  repeat' (first
    | with_reducible refine t_seq fun K => ?_
    | with_reducible refine t_block ?_
    | with_reducible refine t_scope ?_
    | with_reducible refine t_label ?_
    | with_reducible refine t_skip ?_
    | with_reducible refine t_exit ?_
    | with_reducible refine t_ret ?_
    | with_reducible refine t_k ?_
    | (with_reducible refine t_gF ?_)
    | ((first | with_reducible refine t_kE ?_ | with_reducible refine t_kD ?_ | with_reducible refine t_gS ?_ | with_reducible refine t_kL ?_ | (with_reducible refine t_kLE ?_ ?_; rotate_left) | with_reducible refine t_region fun K => ?_ | with_reducible refine t_draw (by kernel_rfl) fun K => ?_); simp only [go_sem, Int.cast_ofNat_Int, Nat.reduceEqDiff, reduceIte, Nat.reduceAdd, Nat.reduceMul, Nat.reduceLeDiff, Nat.reduceSub, Nat.reduceLT, Nat.zero_lt_succ, Int.reduceToNat, Int.reduceAdd, Int.reduceSub, Int.reduceMul, Int.reduceNeg, Int.reduceLT, Int.reduceLE, Int.reduceEq, Int.reduceBEq, Int.reduceBNe, Nat.reduceBEq, List.reduceReplicate])
    | (with_reducible exact kp_nil)
    | (with_reducible exact Kp.refl _)
    | (with_reducible exact kp_to)
    | (with_reducible refine kp_cons ?_)
    | (with_reducible refine kp_arr ?_)
    | (with_reducible refine kp_app ?_)
    | ((with_reducible refine t_cond fun A B => ?_); simp only [go_sem, Int.cast_ofNat_Int, Nat.reduceEqDiff, reduceIte, Nat.reduceAdd, Nat.reduceMul, Nat.reduceLeDiff, Nat.reduceSub, Nat.reduceLT, Nat.zero_lt_succ, Int.reduceToNat, Int.reduceAdd, Int.reduceSub, Int.reduceMul, Int.reduceNeg, Int.reduceLT, Int.reduceLE, Int.reduceEq, Int.reduceBEq, Int.reduceBNe, Nat.reduceBEq, List.reduceReplicate]; first | (with_reducible refine A.h ?_) | (with_reducible refine B.h ?_) | refine And.intro (fun hc => A.h ?_) (fun hc => B.h ?_))
    | simp only [thenQ_n, thenQ_r, thenQ_e, blockQ_n, blockQ_r, blockQ_e, scopeQ_n, scopeQ_r, scopeQ_e, Nat.reduceEqDiff, reduceIte]
    | (with_reducible refine And.intro ?_ ?_)
    | with_reducible intro vr)
  all_goals try (intros; (try simp only [Bool.and_eq_true, Bool.or_eq_true, Bool.not_eq_true', decide_eq_true_eq, decide_eq_false_iff_not, beq_iff_eq, bne_iff_ne, ne_eq, inI64, List.length_append] at *) <;> omega)
  refine end_ret rfl ?_
  simp only [fin, go_sem, Int.cast_ofNat_Int, Nat.reduceEqDiff, reduceIte, Nat.reduceAdd, Nat.reduceMul, Nat.reduceLeDiff, Nat.reduceSub, Nat.reduceLT, Nat.zero_lt_succ, Int.reduceToNat, Int.reduceAdd, Int.reduceSub, Int.reduceMul, Int.reduceNeg, Int.reduceLT, Int.reduceLE, Int.reduceEq, Int.reduceBEq, Int.reduceBNe, Nat.reduceBEq, List.reduceReplicate]
  exact LeA.refl _
theorem intg_mid {b : Bool} {c : Int} {t : List Int} (h1 : ¬ c ≥ 248) (h2 : ¬ c ≤ 7) (hc : 0 ≤ c ∧ c < 256) (hl : t.length ≤ 900000) : PC Try.prog 70 [.sl b 1 (ints .u8 (c :: t))] (decV (dec (c :: t))) := by
  have hg : (ints .u8 (c :: t)).getD 0 .top = .lit (.int .u8 c) := rfl
  have hz : (((t.length + 1 : Nat) : Int) == 0) = false := by simp; omega
  have hw : IntKind.i64.wrap c = c := wrap_i64 (by unfold inI64; omega)
  have e1 : decide (c ≥ 8) = true := decide_eq_true (by omega)
  have e2 : decide (c ≤ 247) = true := decide_eq_true (by omega)
  rw [dec, if_neg h1, if_neg h2]
  refine pc_of E40_ok mixed (fun _ => [0, 2, 3, 4, 5, 6, 7, 8, 9, 10, 11, 14, 24, 32, 39, 42, 50, 59, 61, 66, 76]) Try.func70 rfl (by kernel_rfl) (Nat.le_of_ble_eq_true rfl) ?_
  simp only [initF_cons, initF_nil, Nat.reduceAdd]
  refine t_name fun KF => ?_
  unfold E40
  repeat' (first
    | with_reducible refine t_seq fun K => ?_
    | with_reducible refine t_block ?_
    | with_reducible refine t_scope ?_
    | with_reducible refine t_label ?_
    | with_reducible refine t_skip ?_
    | with_reducible refine t_exit ?_
    | with_reducible refine t_ret ?_
    | with_reducible refine t_k ?_
    | (with_reducible refine t_gF ?_)
    | ((first | with_reducible refine t_kE ?_ | with_reducible refine t_kD ?_ | with_reducible refine t_gS ?_ | with_reducible refine t_kL ?_ | (with_reducible refine t_kLE ?_ ?_; rotate_left) | with_reducible refine t_region fun K => ?_ | with_reducible refine t_draw (by kernel_rfl) fun K => ?_); simp only [go_sem, Int.cast_ofNat_Int, Nat.reduceEqDiff, reduceIte, Nat.reduceAdd, Nat.reduceMul, Nat.reduceLeDiff, Nat.reduceSub, Nat.reduceLT, Nat.zero_lt_succ, Int.reduceToNat, Int.reduceAdd, Int.reduceSub, Int.reduceMul, Int.reduceNeg, Int.reduceLT, Int.reduceLE, Int.reduceEq, Int.reduceBEq, Int.reduceBNe, Nat.reduceBEq, List.reduceReplicate, hg, hz, hw, e1, e2])
    | (with_reducible exact kp_nil)
    | (with_reducible exact Kp.refl _)
    | (with_reducible exact kp_to)
    | (with_reducible refine kp_cons ?_)
    | (with_reducible refine kp_arr ?_)
    | (with_reducible refine kp_app ?_)
    | ((with_reducible refine t_cond fun A B => ?_); simp only [go_sem, Int.cast_ofNat_Int, Nat.reduceEqDiff, reduceIte, Nat.reduceAdd, Nat.reduceMul, Nat.reduceLeDiff, Nat.reduceSub, Nat.reduceLT, Nat.zero_lt_succ, Int.reduceToNat, Int.reduceAdd, Int.reduceSub, Int.reduceMul, Int.reduceNeg, Int.reduceLT, Int.reduceLE, Int.reduceEq, Int.reduceBEq, Int.reduceBNe, Nat.reduceBEq, List.reduceReplicate, hg, hz, hw, e1, e2]; first | (with_reducible refine A.h ?_) | (with_reducible refine B.h ?_) | refine And.intro (fun hc => A.h ?_) (fun hc => B.h ?_))
    | simp only [thenQ_n, thenQ_r, thenQ_e, blockQ_n, blockQ_r, blockQ_e, scopeQ_n, scopeQ_r, scopeQ_e, Nat.reduceEqDiff, reduceIte]
    | (with_reducible refine And.intro ?_ ?_)
    | with_reducible intro vr)
  all_goals try (intros; (try simp only [Bool.and_eq_true, Bool.or_eq_true, Bool.not_eq_true', decide_eq_true_eq, decide_eq_false_iff_not, beq_iff_eq, bne_iff_ne, ne_eq, inI64, List.length_append] at *) <;> omega)
  refine end_ret rfl ?_
  simp only [fin, go_sem, Int.cast_ofNat_Int, Nat.reduceEqDiff, reduceIte, Nat.reduceAdd, Nat.reduceMul, Nat.reduceLeDiff, Nat.reduceSub, Nat.reduceLT, Nat.zero_lt_succ, Int.reduceToNat, Int.reduceAdd, Int.reduceSub, Int.reduceMul, Int.reduceNeg, Int.reduceLT, Int.reduceLE, Int.reduceEq, Int.reduceBEq, Int.reduceBNe, Nat.reduceBEq, List.reduceReplicate]
  refine LeA.tup ⟨LeA.refl _, LeA.slx ?_, LeA.refl _, trivial⟩
  rw [List.take_length]
set_option maxHeartbeats 2000000 in
theorem intg_hi {b : Bool} {k : Nat} (hk1 : 1 ≤ k) (hk8 : k ≤ 8) {t : List Int} (hl : t.length ≤ 900000) (hb : byt t) : PC Try.prog 70 [.sl b 1 (ints .u8 ((247 + (k : Int)) :: t))] (decV (dec ((247 + (k : Int)) :: t))) := by
  have hg : (ints .u8 ((247 + (k : Int)) :: t)).getD 0 .top = .lit (.int .u8 (247 + (k : Int))) := rfl
  have hz : (((t.length + 1 : Nat) : Int) == 0) = false := by simp; omega
  have hw : IntKind.i64.wrap (247 + (k : Int)) = 247 + (k : Int) := wrap_i64 (by unfold inI64; omega)
  have e1 : decide (247 + (k : Int) ≥ 8) = true := decide_eq_true (by omega)
  have e2 : decide (247 + (k : Int) ≤ 247) = false := decide_eq_false (by omega)
  have e3 : decide (247 + (k : Int) < 8) = false := decide_eq_false (by omega)
  have e4 : 247 + (k : Int) - 247 = (k : Int) := by omega
  rw [dec, if_pos (by omega), show (247 + (k : Int) - 247).toNat = k by omega]
  rcases Nat.lt_or_ge t.length k with hs | hkt
  · have e5 : decide (((t.length + 1 : Nat) : Int) < 1 + (k : Int)) = true := decide_eq_true (by omega)
    have : decB 66 k t = none := by unfold decB; rw [if_pos hs]
    rw [this]
    refine pc_of E40_ok mixed (fun _ => [0, 2, 3, 4, 5, 6, 7, 8, 9, 10, 11, 14, 24, 32, 39, 42, 50, 59, 61, 66, 76]) Try.func70 rfl (by kernel_rfl) (Nat.le_of_ble_eq_true rfl) ?_
    simp only [initF_cons, initF_nil, Nat.reduceAdd]
    refine t_name fun KF => ?_
    unfold E40
    repeat' (first
      | with_reducible refine t_seq fun K => ?_
      | with_reducible refine t_block ?_
      | with_reducible refine t_scope ?_
      | with_reducible refine t_label ?_
      | with_reducible refine t_skip ?_
      | with_reducible refine t_exit ?_
      | with_reducible refine t_ret ?_
      | with_reducible refine t_k ?_
      | (with_reducible refine t_gF ?_)
      | ((first | with_reducible refine t_kE ?_ | with_reducible refine t_kD ?_ | with_reducible refine t_gS ?_ | with_reducible refine t_kL ?_ | (with_reducible refine t_kLE ?_ ?_; rotate_left) | with_reducible refine t_region fun K => ?_ | with_reducible refine t_draw (by kernel_rfl) fun K => ?_); simp only [go_sem, Int.cast_ofNat_Int, Nat.reduceEqDiff, reduceIte, Nat.reduceAdd, Nat.reduceMul, Nat.reduceLeDiff, Nat.reduceSub, Nat.reduceLT, Nat.zero_lt_succ, Int.reduceToNat, Int.reduceAdd, Int.reduceSub, Int.reduceMul, Int.reduceNeg, Int.reduceLT, Int.reduceLE, Int.reduceEq, Int.reduceBEq, Int.reduceBNe, Nat.reduceBEq, List.reduceReplicate, hg, hz, hw, e1, e2, e3, e4, e5])
      | (with_reducible exact kp_nil)
      | (with_reducible exact Kp.refl _)
      | (with_reducible exact kp_to)
      | (with_reducible refine kp_cons ?_)
      | (with_reducible refine kp_arr ?_)
      | (with_reducible refine kp_app ?_)
      | ((with_reducible refine t_cond fun A B => ?_); simp only [go_sem, Int.cast_ofNat_Int, Nat.reduceEqDiff, reduceIte, Nat.reduceAdd, Nat.reduceMul, Nat.reduceLeDiff, Nat.reduceSub, Nat.reduceLT, Nat.zero_lt_succ, Int.reduceToNat, Int.reduceAdd, Int.reduceSub, Int.reduceMul, Int.reduceNeg, Int.reduceLT, Int.reduceLE, Int.reduceEq, Int.reduceBEq, Int.reduceBNe, Nat.reduceBEq, List.reduceReplicate, hg, hz, hw, e1, e2, e3, e4, e5]; first | (with_reducible refine A.h ?_) | (with_reducible refine B.h ?_) | refine And.intro (fun hc => A.h ?_) (fun hc => B.h ?_))
      | simp only [thenQ_n, thenQ_r, thenQ_e, blockQ_n, blockQ_r, blockQ_e, scopeQ_n, scopeQ_r, scopeQ_e, Nat.reduceEqDiff, reduceIte]
      | (with_reducible refine And.intro ?_ ?_)
      | with_reducible intro vr)
    all_goals try (intros; (try simp only [Bool.and_eq_true, Bool.or_eq_true, Bool.not_eq_true', decide_eq_true_eq, decide_eq_false_iff_not, beq_iff_eq, bne_iff_ne, ne_eq, inI64, List.length_append] at *) <;> omega)
    refine end_ret rfl ?_
    simp only [fin, go_sem, Int.cast_ofNat_Int, Nat.reduceEqDiff, reduceIte, Nat.reduceAdd, Nat.reduceMul, Nat.reduceLeDiff, Nat.reduceSub, Nat.reduceLT, Nat.zero_lt_succ, Int.reduceToNat, Int.reduceAdd, Int.reduceSub, Int.reduceMul, Int.reduceNeg, Int.reduceLT, Int.reduceLE, Int.reduceEq, Int.reduceBEq, Int.reduceBNe, Nat.reduceBEq, List.reduceReplicate]
    exact LeA.refl _
  have e5 : decide (((t.length + 1 : Nat) : Int) < 1 + (k : Int)) = false := decide_eq_false (by omega)
  have hbd : byt ((t.take k).map (chg 66)) := by
    intro x hx
    obtain ⟨y, hy, rfl⟩ := List.mem_map.1 hx
    exact chg_bd y (hb y (List.mem_of_mem_take hy))
  rw [decB_eq hk1 hk8 hkt hbd]
  have hV : 0 ≤ valOf ((t.take k).map (chg 66)) ∧ valOf ((t.take k).map (chg 66)) < 18446744073709551616 := by
    have := valOf_bd _ hbd
    have hlen : ((t.take k).map (chg 66)).length = k := by rw [List.length_map, List.length_take]; omega
    rw [hlen] at this
    have h8 : (256 : Int) ^ k ≤ 18446744073709551616 := by
      have : k = 1 ∨ k = 2 ∨ k = 3 ∨ k = 4 ∨ k = 5 ∨ k = 6 ∨ k = 7 ∨ k = 8 := by omega
      rcases this with rfl | rfl | rfl | rfl | rfl | rfl | rfl | rfl <;> simp
    omega
  generalize hVV : valOf ((t.take k).map (chg 66)) = V at hV
  generalize hRR : (if V ≤ 9223372036854775687 ∧ wid V = k then some (if (66 : FuncId) = 67 then -121 - V else V + 120, t.drop k) else none) = R
  refine pc_of E40_ok mixed (fun _ => [0, 2, 3, 4, 5, 6, 7, 8, 9, 10, 11, 14, 24, 32, 39, 42, 50, 59, 61, 66, 76]) Try.func70 rfl (by kernel_rfl) (Nat.le_of_ble_eq_true rfl) ?_
  simp only [initF_cons, initF_nil, Nat.reduceAdd]
  refine t_name fun KF => ?_
  unfold E40
  repeat' (first
    | with_reducible refine t_seq fun K => ?_
    | with_reducible refine t_block ?_
    | with_reducible refine t_scope ?_
    | with_reducible refine t_label ?_
    | with_reducible refine t_skip ?_
    | with_reducible refine t_exit ?_
    | with_reducible refine t_ret ?_
    | with_reducible refine t_k ?_
    | (with_reducible refine t_gF ?_)
    | ((first | with_reducible refine t_kE ?_ | with_reducible refine t_kD ?_ | with_reducible refine t_gS ?_ | with_reducible refine t_kL ?_ | (with_reducible refine t_kLE ?_ ?_; rotate_left) | with_reducible refine t_region fun K => ?_ | with_reducible refine t_draw (by kernel_rfl) fun K => ?_); simp only [go_sem, Int.cast_ofNat_Int, Nat.reduceEqDiff, reduceIte, Nat.reduceAdd, Nat.reduceMul, Nat.reduceLeDiff, Nat.reduceSub, Nat.reduceLT, Nat.zero_lt_succ, Int.reduceToNat, Int.reduceAdd, Int.reduceSub, Int.reduceMul, Int.reduceNeg, Int.reduceLT, Int.reduceLE, Int.reduceEq, Int.reduceBEq, Int.reduceBNe, Nat.reduceBEq, List.reduceReplicate, hg, hz, hw, e1, e2, e3, e4, e5])
    | (with_reducible exact kp_nil)
    | (with_reducible exact Kp.refl _)
    | (with_reducible exact kp_to)
    | (with_reducible refine kp_cons ?_)
    | (with_reducible refine kp_arr ?_)
    | (with_reducible refine kp_app ?_)
    | ((with_reducible refine t_cond fun A B => ?_); simp only [go_sem, Int.cast_ofNat_Int, Nat.reduceEqDiff, reduceIte, Nat.reduceAdd, Nat.reduceMul, Nat.reduceLeDiff, Nat.reduceSub, Nat.reduceLT, Nat.zero_lt_succ, Int.reduceToNat, Int.reduceAdd, Int.reduceSub, Int.reduceMul, Int.reduceNeg, Int.reduceLT, Int.reduceLE, Int.reduceEq, Int.reduceBEq, Int.reduceBNe, Nat.reduceBEq, List.reduceReplicate, hg, hz, hw, e1, e2, e3, e4, e5]; first | (with_reducible refine A.h ?_) | (with_reducible refine B.h ?_) | refine And.intro (fun hc => A.h ?_) (fun hc => B.h ?_))
    | simp only [thenQ_n, thenQ_r, thenQ_e, blockQ_n, blockQ_r, blockQ_e, scopeQ_n, scopeQ_r, scopeQ_e, Nat.reduceEqDiff, reduceIte]
    | (with_reducible refine And.intro ?_ ?_)
    | with_reducible intro vr)
  all_goals try (intros; (try simp only [Bool.and_eq_true, Bool.or_eq_true, Bool.not_eq_true', decide_eq_true_eq, decide_eq_false_iff_not, beq_iff_eq, bne_iff_ne, ne_eq, inI64, List.length_append] at *) <;> omega)
  refine t_loop (ι := { j : Nat // j ≤ k }) (fun j => ⟨upd (upd (upd (upd (upd topF 8 (.lit (.int .i64 (1 + (j.1 : Int))))) 7 (.lit (.int .u64 (valOf ((t.take j.1).map (chg 66)))))) 6 (.lit (.int .i64 k))) 5 (.lit (.int .i64 (247 + (k : Int))))) 0 (.sl b 1 (ints .u8 ((247 + (k : Int)) :: t))), []⟩) (fun j => k - j.1) ⟨0, by omega⟩ ?_ ?_
  · skip
    (refine Le.frame ?_; repeat' (first | exact leF_top _ | (with_reducible refine leF_sl ?_ ?_) | (refine leF_upd (LeR.of_eq ?_) ?_))) <;> (try (simp only [go_sem, Int.cast_ofNat_Int, Nat.reduceEqDiff, reduceIte, Nat.reduceAdd, Nat.reduceMul, Nat.reduceLeDiff, Nat.reduceSub, Nat.reduceLT, Nat.zero_lt_succ, Int.reduceToNat, Int.reduceAdd, Int.reduceSub, Int.reduceMul, Int.reduceNeg, Int.reduceLT, Int.reduceLE, Int.reduceEq, Int.reduceBEq, Int.reduceBNe, Nat.reduceBEq, List.reduceReplicate]; try rfl))
  · rintro ⟨j, hj⟩ K0
    rcases Nat.lt_or_ge j k with hjk | hjk
    · have g1 : decide (1 + (j : Int) ≤ (k : Int)) = true := decide_eq_true (by omega)
      have g2 : (1 + (j : Int)).toNat = j + 1 := by omega
      have hx := hb (t.getD j 0) (by rw [getD_elem _ _ (by omega)]; exact List.getElem_mem _)
      have hel : (ints .u8 ((247 + (k : Int)) :: t)).getD (j + 1) .top = .lit (.int .u8 (t.getD j 0)) := by
        rw [ints_cons, List.getD_cons_succ, ints_getD _ _ _ (by omega)]
      have hbj : byt ((t.take j).map (chg 66)) := by
        intro x hx
        obtain ⟨y, hy, rfl⟩ := List.mem_map.1 hx
        exact chg_bd y (hb y (List.mem_of_mem_take hy))
      have hvj := valOf_bd _ hbj
      have hlj : ((t.take j).map (chg 66)).length = j := by rw [List.length_map, List.length_take]; omega
      rw [hlj] at hvj
      have hp := pow_le7 (n := j) (by omega)
      have hcx := chg_bd (f := 66) (t.getD j 0) hx
      have hstep : valOf ((t.take (j + 1)).map (chg 66)) = valOf ((t.take j).map (chg 66)) * 256 + chg 66 (t.getD j 0) := by
        rw [take_next t 0 (by omega), List.map_append, List.map_cons, List.map_nil, valOf_snoc]
      have hor := or_byte hvj.1 (by omega) hcx.1 hcx.2
      have hw8 : IntKind.u64.wrap (chg 66 (t.getD j 0)) = chg 66 (t.getD j 0) := by rw [wrap_u64]; omega
      have hch : t.getD j 0 = chg 66 (t.getD j 0) := by simp [chg]
      repeat' (first
        | with_reducible refine t_seq fun K => ?_
        | with_reducible refine t_block ?_
        | with_reducible refine t_scope ?_
        | with_reducible refine t_label ?_
        | with_reducible refine t_skip ?_
        | with_reducible refine t_exit ?_
        | with_reducible refine t_ret ?_
        | with_reducible refine t_k ?_
        | (with_reducible refine t_gF ?_)
        | ((first | with_reducible refine t_kE ?_ | with_reducible refine t_kD ?_ | with_reducible refine t_gS ?_ | with_reducible refine t_kL ?_ | (with_reducible refine t_kLE ?_ ?_; rotate_left) | with_reducible refine t_region fun K => ?_ | with_reducible refine t_draw (by kernel_rfl) fun K => ?_); simp only [go_sem, Int.cast_ofNat_Int, Nat.reduceEqDiff, reduceIte, Nat.reduceAdd, Nat.reduceMul, Nat.reduceLeDiff, Nat.reduceSub, Nat.reduceLT, Nat.zero_lt_succ, Int.reduceToNat, Int.reduceAdd, Int.reduceSub, Int.reduceMul, Int.reduceNeg, Int.reduceLT, Int.reduceLE, Int.reduceEq, Int.reduceBEq, Int.reduceBNe, Nat.reduceBEq, List.reduceReplicate, hg, g1, g2, hel, e3, Nat.reduceSub])
        | (with_reducible exact kp_nil)
        | (with_reducible exact Kp.refl _)
        | (with_reducible exact kp_to)
        | (with_reducible refine kp_cons ?_)
        | (with_reducible refine kp_arr ?_)
        | (with_reducible refine kp_app ?_)
        | ((with_reducible refine t_cond fun A B => ?_); simp only [go_sem, Int.cast_ofNat_Int, Nat.reduceEqDiff, reduceIte, Nat.reduceAdd, Nat.reduceMul, Nat.reduceLeDiff, Nat.reduceSub, Nat.reduceLT, Nat.zero_lt_succ, Int.reduceToNat, Int.reduceAdd, Int.reduceSub, Int.reduceMul, Int.reduceNeg, Int.reduceLT, Int.reduceLE, Int.reduceEq, Int.reduceBEq, Int.reduceBNe, Nat.reduceBEq, List.reduceReplicate, hg, g1, g2, hel, e3, Nat.reduceSub]; first | (with_reducible refine A.h ?_) | (with_reducible refine B.h ?_) | refine And.intro (fun hc => A.h ?_) (fun hc => B.h ?_))
        | simp only [thenQ_n, thenQ_r, thenQ_e, blockQ_n, blockQ_r, blockQ_e, scopeQ_n, scopeQ_r, scopeQ_e, Nat.reduceEqDiff, reduceIte]
        | (with_reducible refine And.intro ?_ ?_)
        | with_reducible intro vr)
      all_goals try (intros; (try simp only [Bool.and_eq_true, Bool.or_eq_true, Bool.not_eq_true', decide_eq_true_eq, decide_eq_false_iff_not, beq_iff_eq, bne_iff_ne, ne_eq, inI64, List.length_append] at *) <;> omega)
      refine ⟨⟨j + 1, by omega⟩, by simp only; omega, ?_⟩
      (refine Le.frame ?_; repeat' (first | exact leF_top _ | (with_reducible refine leF_sl ?_ ?_) | (refine leF_upd (LeR.of_eq ?_) ?_))) <;> (try (simp only [go_sem, Int.cast_ofNat_Int, Nat.reduceEqDiff, reduceIte, Nat.reduceAdd, Nat.reduceMul, Nat.reduceLeDiff, Nat.reduceSub, Nat.reduceLT, Nat.zero_lt_succ, Int.reduceToNat, Int.reduceAdd, Int.reduceSub, Int.reduceMul, Int.reduceNeg, Int.reduceLT, Int.reduceLE, Int.reduceEq, Int.reduceBEq, Int.reduceBNe, Nat.reduceBEq, List.reduceReplicate]; try rfl))
      · rw [hch, hw8, hstep]; exact hor
    · have g1 : decide (1 + (j : Int) ≤ (k : Int)) = false := decide_eq_false (by omega)
      have hjk' : j = k := by omega
      subst hjk'
      by_cases hm : V > 9223372036854775687
      · have e6 : decide (V > 9223372036854775687) = true := decide_eq_true hm
        rw [if_neg (by omega)] at hRR
        subst hRR
        repeat' (first
          | with_reducible refine t_seq fun K => ?_
          | with_reducible refine t_block ?_
          | with_reducible refine t_scope ?_
          | with_reducible refine t_label ?_
          | with_reducible refine t_skip ?_
          | with_reducible refine t_exit ?_
          | with_reducible refine t_ret ?_
          | with_reducible refine t_k ?_
          | (with_reducible refine t_gF ?_)
          | ((first | with_reducible refine t_kE ?_ | with_reducible refine t_kD ?_ | with_reducible refine t_gS ?_ | with_reducible refine t_kL ?_ | (with_reducible refine t_kLE ?_ ?_; rotate_left) | with_reducible refine t_region fun K => ?_ | with_reducible refine t_draw (by kernel_rfl) fun K => ?_); simp only [go_sem, Int.cast_ofNat_Int, Nat.reduceEqDiff, reduceIte, Nat.reduceAdd, Nat.reduceMul, Nat.reduceLeDiff, Nat.reduceSub, Nat.reduceLT, Nat.zero_lt_succ, Int.reduceToNat, Int.reduceAdd, Int.reduceSub, Int.reduceMul, Int.reduceNeg, Int.reduceLT, Int.reduceLE, Int.reduceEq, Int.reduceBEq, Int.reduceBNe, Nat.reduceBEq, List.reduceReplicate, g1, e3, hVV, e6])
          | (with_reducible exact kp_nil)
          | (with_reducible exact Kp.refl _)
          | (with_reducible exact kp_to)
          | (with_reducible refine kp_cons ?_)
          | (with_reducible refine kp_arr ?_)
          | (with_reducible refine kp_app ?_)
          | ((with_reducible refine t_cond fun A B => ?_); simp only [go_sem, Int.cast_ofNat_Int, Nat.reduceEqDiff, reduceIte, Nat.reduceAdd, Nat.reduceMul, Nat.reduceLeDiff, Nat.reduceSub, Nat.reduceLT, Nat.zero_lt_succ, Int.reduceToNat, Int.reduceAdd, Int.reduceSub, Int.reduceMul, Int.reduceNeg, Int.reduceLT, Int.reduceLE, Int.reduceEq, Int.reduceBEq, Int.reduceBNe, Nat.reduceBEq, List.reduceReplicate, g1, e3, hVV, e6]; first | (with_reducible refine A.h ?_) | (with_reducible refine B.h ?_) | refine And.intro (fun hc => A.h ?_) (fun hc => B.h ?_))
          | simp only [thenQ_n, thenQ_r, thenQ_e, blockQ_n, blockQ_r, blockQ_e, scopeQ_n, scopeQ_r, scopeQ_e, Nat.reduceEqDiff, reduceIte]
          | (with_reducible refine And.intro ?_ ?_)
          | with_reducible intro vr)
        all_goals try (intros; (try simp only [Bool.and_eq_true, Bool.or_eq_true, Bool.not_eq_true', decide_eq_true_eq, decide_eq_false_iff_not, beq_iff_eq, bne_iff_ne, ne_eq, inI64, List.length_append] at *) <;> omega)
        refine end_ret rfl ?_
        simp only [fin, go_sem, Int.cast_ofNat_Int, Nat.reduceEqDiff, reduceIte, Nat.reduceAdd, Nat.reduceMul, Nat.reduceLeDiff, Nat.reduceSub, Nat.reduceLT, Nat.zero_lt_succ, Int.reduceToNat, Int.reduceAdd, Int.reduceSub, Int.reduceMul, Int.reduceNeg, Int.reduceLT, Int.reduceLE, Int.reduceEq, Int.reduceBEq, Int.reduceBNe, Nat.reduceBEq, List.reduceReplicate]
        exact LeA.refl _
      · have e6 : decide (V > 9223372036854775687) = false := decide_eq_false hm
        have hw2 : IntKind.i64.wrap V = V := wrap_i64 (by unfold inI64; omega)
        have hlen := enc_hi_len hV.1
        have hin : inI64 (V + 120) := by unfold inI64; omega
        by_cases hwd : wid V = j
        · have e7 : ((1 + wid V : Nat) : Int) = 1 + (j : Int) := by omega
          have e8 : (((1 + wid V : Nat) : Int) != 1 + (j : Int)) = false := by rw [bne_eq_false_iff_eq]; omega
          rw [if_pos ⟨by omega, hwd⟩] at hRR
          subst hRR
          repeat' (first
            | with_reducible refine t_seq fun K => ?_
            | with_reducible refine t_block ?_
            | with_reducible refine t_scope ?_
            | with_reducible refine t_label ?_
            | with_reducible refine t_skip ?_
            | with_reducible refine t_exit ?_
            | with_reducible refine t_ret ?_
            | with_reducible refine t_k ?_
            | (with_reducible refine t_gF ?_)
            | ((first | with_reducible refine t_kE ?_ | with_reducible refine t_kD ?_ | with_reducible refine t_gS ?_ | with_reducible refine t_kL ?_ | (with_reducible refine t_kLE ?_ ?_; rotate_left) | with_reducible refine t_region fun K => ?_ | with_reducible refine t_draw (by kernel_rfl) fun K => ?_); simp only [go_sem, Int.cast_ofNat_Int, Nat.reduceEqDiff, reduceIte, Nat.reduceAdd, Nat.reduceMul, Nat.reduceLeDiff, Nat.reduceSub, Nat.reduceLT, Nat.zero_lt_succ, Int.reduceToNat, Int.reduceAdd, Int.reduceSub, Int.reduceMul, Int.reduceNeg, Int.reduceLT, Int.reduceLE, Int.reduceEq, Int.reduceBEq, Int.reduceBNe, Nat.reduceBEq, List.reduceReplicate, g1, e3, hVV, e6, hw2, con15_f, con15_c, slK_nil, hlen, e8, hin])
            | (with_reducible exact kp_nil)
            | (with_reducible exact Kp.refl _)
            | (with_reducible exact kp_to)
            | (with_reducible refine kp_cons ?_)
            | (with_reducible refine kp_arr ?_)
            | (with_reducible refine kp_app ?_)
            | ((with_reducible refine t_cond fun A B => ?_); simp only [go_sem, Int.cast_ofNat_Int, Nat.reduceEqDiff, reduceIte, Nat.reduceAdd, Nat.reduceMul, Nat.reduceLeDiff, Nat.reduceSub, Nat.reduceLT, Nat.zero_lt_succ, Int.reduceToNat, Int.reduceAdd, Int.reduceSub, Int.reduceMul, Int.reduceNeg, Int.reduceLT, Int.reduceLE, Int.reduceEq, Int.reduceBEq, Int.reduceBNe, Nat.reduceBEq, List.reduceReplicate, g1, e3, hVV, e6, hw2, con15_f, con15_c, slK_nil, hlen, e8, hin]; first | (with_reducible refine A.h ?_) | (with_reducible refine B.h ?_) | refine And.intro (fun hc => A.h ?_) (fun hc => B.h ?_))
            | simp only [thenQ_n, thenQ_r, thenQ_e, blockQ_n, blockQ_r, blockQ_e, scopeQ_n, scopeQ_r, scopeQ_e, Nat.reduceEqDiff, reduceIte]
            | (with_reducible refine And.intro ?_ ?_)
            | with_reducible intro vr)
          all_goals try (intros; (try simp only [Bool.and_eq_true, Bool.or_eq_true, Bool.not_eq_true', decide_eq_true_eq, decide_eq_false_iff_not, beq_iff_eq, bne_iff_ne, ne_eq, inI64, List.length_append] at *) <;> omega)
          refine end_ret rfl ?_
          simp only [fin, go_sem, Int.cast_ofNat_Int, Nat.reduceEqDiff, reduceIte, Nat.reduceAdd, Nat.reduceMul, Nat.reduceLeDiff, Nat.reduceSub, Nat.reduceLT, Nat.zero_lt_succ, Int.reduceToNat, Int.reduceAdd, Int.reduceSub, Int.reduceMul, Int.reduceNeg, Int.reduceLT, Int.reduceLE, Int.reduceEq, Int.reduceBEq, Int.reduceBNe, Nat.reduceBEq, List.reduceReplicate]
          refine LeA.tup ⟨LeA.refl _, LeA.slx ?_, LeA.refl _, trivial⟩
          rw [show (1 + (j : Int)).toNat = j + 1 by omega, List.take_length, List.drop_succ_cons]
        · have e8 : (((1 + wid V : Nat) : Int) != 1 + (j : Int)) = true := by rw [bne_iff_ne]; omega
          rw [if_neg (fun hc => hwd hc.2)] at hRR
          subst hRR
          repeat' (first
            | with_reducible refine t_seq fun K => ?_
            | with_reducible refine t_block ?_
            | with_reducible refine t_scope ?_
            | with_reducible refine t_label ?_
            | with_reducible refine t_skip ?_
            | with_reducible refine t_exit ?_
            | with_reducible refine t_ret ?_
            | with_reducible refine t_k ?_
            | (with_reducible refine t_gF ?_)
            | ((first | with_reducible refine t_kE ?_ | with_reducible refine t_kD ?_ | with_reducible refine t_gS ?_ | with_reducible refine t_kL ?_ | (with_reducible refine t_kLE ?_ ?_; rotate_left) | with_reducible refine t_region fun K => ?_ | with_reducible refine t_draw (by kernel_rfl) fun K => ?_); simp only [go_sem, Int.cast_ofNat_Int, Nat.reduceEqDiff, reduceIte, Nat.reduceAdd, Nat.reduceMul, Nat.reduceLeDiff, Nat.reduceSub, Nat.reduceLT, Nat.zero_lt_succ, Int.reduceToNat, Int.reduceAdd, Int.reduceSub, Int.reduceMul, Int.reduceNeg, Int.reduceLT, Int.reduceLE, Int.reduceEq, Int.reduceBEq, Int.reduceBNe, Nat.reduceBEq, List.reduceReplicate, g1, e3, hVV, e6, hw2, con15_f, con15_c, slK_nil, hlen, e8, hin])
            | (with_reducible exact kp_nil)
            | (with_reducible exact Kp.refl _)
            | (with_reducible exact kp_to)
            | (with_reducible refine kp_cons ?_)
            | (with_reducible refine kp_arr ?_)
            | (with_reducible refine kp_app ?_)
            | ((with_reducible refine t_cond fun A B => ?_); simp only [go_sem, Int.cast_ofNat_Int, Nat.reduceEqDiff, reduceIte, Nat.reduceAdd, Nat.reduceMul, Nat.reduceLeDiff, Nat.reduceSub, Nat.reduceLT, Nat.zero_lt_succ, Int.reduceToNat, Int.reduceAdd, Int.reduceSub, Int.reduceMul, Int.reduceNeg, Int.reduceLT, Int.reduceLE, Int.reduceEq, Int.reduceBEq, Int.reduceBNe, Nat.reduceBEq, List.reduceReplicate, g1, e3, hVV, e6, hw2, con15_f, con15_c, slK_nil, hlen, e8, hin]; first | (with_reducible refine A.h ?_) | (with_reducible refine B.h ?_) | refine And.intro (fun hc => A.h ?_) (fun hc => B.h ?_))
            | simp only [thenQ_n, thenQ_r, thenQ_e, blockQ_n, blockQ_r, blockQ_e, scopeQ_n, scopeQ_r, scopeQ_e, Nat.reduceEqDiff, reduceIte]
            | (with_reducible refine And.intro ?_ ?_)
            | with_reducible intro vr)
          all_goals try (intros; (try simp only [Bool.and_eq_true, Bool.or_eq_true, Bool.not_eq_true', decide_eq_true_eq, decide_eq_false_iff_not, beq_iff_eq, bne_iff_ne, ne_eq, inI64, List.length_append] at *) <;> omega)
          refine end_ret rfl ?_
          simp only [fin, go_sem, Int.cast_ofNat_Int, Nat.reduceEqDiff, reduceIte, Nat.reduceAdd, Nat.reduceMul, Nat.reduceLeDiff, Nat.reduceSub, Nat.reduceLT, Nat.zero_lt_succ, Int.reduceToNat, Int.reduceAdd, Int.reduceSub, Int.reduceMul, Int.reduceNeg, Int.reduceLT, Int.reduceLE, Int.reduceEq, Int.reduceBEq, Int.reduceBNe, Nat.reduceBEq, List.reduceReplicate]
          exact LeA.refl _
set_option maxHeartbeats 2000000 in
theorem intg_lo {b : Bool} {k : Nat} (hk1 : 1 ≤ k) (hk8 : k ≤ 8) {t : List Int} (hl : t.length ≤ 900000) (hb : byt t) : PC Try.prog 70 [.sl b 1 (ints .u8 ((8 - (k : Int)) :: t))] (decV (dec ((8 - (k : Int)) :: t))) := by
  have hg : (ints .u8 ((8 - (k : Int)) :: t)).getD 0 .top = .lit (.int .u8 (8 - (k : Int))) := rfl
  have hz : (((t.length + 1 : Nat) : Int) == 0) = false := by simp; omega
  have hw : IntKind.i64.wrap (8 - (k : Int)) = 8 - (k : Int) := wrap_i64 (by unfold inI64; omega)
  have e1 : decide (8 - (k : Int) ≥ 8) = false := decide_eq_false (by omega)
  have e3 : decide (8 - (k : Int) < 8) = true := decide_eq_true (by omega)
  have e4 : 8 - (8 - (k : Int)) = (k : Int) := by omega
  rw [dec, if_neg (by omega), if_pos (by omega), show (8 - (8 - (k : Int))).toNat = k by omega]
  rcases Nat.lt_or_ge t.length k with hs | hkt
  · have e5 : decide (((t.length + 1 : Nat) : Int) < 1 + (k : Int)) = true := decide_eq_true (by omega)
    have : decB 67 k t = none := by unfold decB; rw [if_pos hs]
    rw [this]
    refine pc_of E40_ok mixed (fun _ => [0, 2, 3, 4, 5, 6, 7, 8, 9, 10, 11, 14, 24, 32, 39, 42, 50, 59, 61, 66, 76]) Try.func70 rfl (by kernel_rfl) (Nat.le_of_ble_eq_true rfl) ?_
    simp only [initF_cons, initF_nil, Nat.reduceAdd]
    refine t_name fun KF => ?_
    unfold E40
    repeat' (first
      | with_reducible refine t_seq fun K => ?_
      | with_reducible refine t_block ?_
      | with_reducible refine t_scope ?_
      | with_reducible refine t_label ?_
      | with_reducible refine t_skip ?_
      | with_reducible refine t_exit ?_
      | with_reducible refine t_ret ?_
      | with_reducible refine t_k ?_
      | (with_reducible refine t_gF ?_)
      | ((first | with_reducible refine t_kE ?_ | with_reducible refine t_kD ?_ | with_reducible refine t_gS ?_ | with_reducible refine t_kL ?_ | (with_reducible refine t_kLE ?_ ?_; rotate_left) | with_reducible refine t_region fun K => ?_ | with_reducible refine t_draw (by kernel_rfl) fun K => ?_); simp only [go_sem, Int.cast_ofNat_Int, Nat.reduceEqDiff, reduceIte, Nat.reduceAdd, Nat.reduceMul, Nat.reduceLeDiff, Nat.reduceSub, Nat.reduceLT, Nat.zero_lt_succ, Int.reduceToNat, Int.reduceAdd, Int.reduceSub, Int.reduceMul, Int.reduceNeg, Int.reduceLT, Int.reduceLE, Int.reduceEq, Int.reduceBEq, Int.reduceBNe, Nat.reduceBEq, List.reduceReplicate, hg, hz, hw, e1, e3, e4, e5])
      | (with_reducible exact kp_nil)
      | (with_reducible exact Kp.refl _)
      | (with_reducible exact kp_to)
      | (with_reducible refine kp_cons ?_)
      | (with_reducible refine kp_arr ?_)
      | (with_reducible refine kp_app ?_)
      | ((with_reducible refine t_cond fun A B => ?_); simp only [go_sem, Int.cast_ofNat_Int, Nat.reduceEqDiff, reduceIte, Nat.reduceAdd, Nat.reduceMul, Nat.reduceLeDiff, Nat.reduceSub, Nat.reduceLT, Nat.zero_lt_succ, Int.reduceToNat, Int.reduceAdd, Int.reduceSub, Int.reduceMul, Int.reduceNeg, Int.reduceLT, Int.reduceLE, Int.reduceEq, Int.reduceBEq, Int.reduceBNe, Nat.reduceBEq, List.reduceReplicate, hg, hz, hw, e1, e3, e4, e5]; first | (with_reducible refine A.h ?_) | (with_reducible refine B.h ?_) | refine And.intro (fun hc => A.h ?_) (fun hc => B.h ?_))
      | simp only [thenQ_n, thenQ_r, thenQ_e, blockQ_n, blockQ_r, blockQ_e, scopeQ_n, scopeQ_r, scopeQ_e, Nat.reduceEqDiff, reduceIte]
      | (with_reducible refine And.intro ?_ ?_)
      | with_reducible intro vr)
    all_goals try (intros; (try simp only [Bool.and_eq_true, Bool.or_eq_true, Bool.not_eq_true', decide_eq_true_eq, decide_eq_false_iff_not, beq_iff_eq, bne_iff_ne, ne_eq, inI64, List.length_append] at *) <;> omega)
    refine end_ret rfl ?_
    simp only [fin, go_sem, Int.cast_ofNat_Int, Nat.reduceEqDiff, reduceIte, Nat.reduceAdd, Nat.reduceMul, Nat.reduceLeDiff, Nat.reduceSub, Nat.reduceLT, Nat.zero_lt_succ, Int.reduceToNat, Int.reduceAdd, Int.reduceSub, Int.reduceMul, Int.reduceNeg, Int.reduceLT, Int.reduceLE, Int.reduceEq, Int.reduceBEq, Int.reduceBNe, Nat.reduceBEq, List.reduceReplicate]
    exact LeA.refl _
  have e5 : decide (((t.length + 1 : Nat) : Int) < 1 + (k : Int)) = false := decide_eq_false (by omega)
  have hbd : byt ((t.take k).map (chg 67)) := by
    intro x hx
    obtain ⟨y, hy, rfl⟩ := List.mem_map.1 hx
    exact chg_bd y (hb y (List.mem_of_mem_take hy))
  rw [decB_eq hk1 hk8 hkt hbd]
  have hV : 0 ≤ valOf ((t.take k).map (chg 67)) ∧ valOf ((t.take k).map (chg 67)) < 18446744073709551616 := by
    have := valOf_bd _ hbd
    have hlen : ((t.take k).map (chg 67)).length = k := by rw [List.length_map, List.length_take]; omega
    rw [hlen] at this
    have h8 : (256 : Int) ^ k ≤ 18446744073709551616 := by
      have : k = 1 ∨ k = 2 ∨ k = 3 ∨ k = 4 ∨ k = 5 ∨ k = 6 ∨ k = 7 ∨ k = 8 := by omega
      rcases this with rfl | rfl | rfl | rfl | rfl | rfl | rfl | rfl <;> simp
    omega
  generalize hVV : valOf ((t.take k).map (chg 67)) = V at hV
  generalize hRR : (if V ≤ 9223372036854775687 ∧ wid V = k then some (if (67 : FuncId) = 67 then -121 - V else V + 120, t.drop k) else none) = R
  refine pc_of E40_ok mixed (fun _ => [0, 2, 3, 4, 5, 6, 7, 8, 9, 10, 11, 14, 24, 32, 39, 42, 50, 59, 61, 66, 76]) Try.func70 rfl (by kernel_rfl) (Nat.le_of_ble_eq_true rfl) ?_
  simp only [initF_cons, initF_nil, Nat.reduceAdd]
  refine t_name fun KF => ?_
  unfold E40
  repeat' (first
    | with_reducible refine t_seq fun K => ?_
    | with_reducible refine t_block ?_
    | with_reducible refine t_scope ?_
    | with_reducible refine t_label ?_
    | with_reducible refine t_skip ?_
    | with_reducible refine t_exit ?_
    | with_reducible refine t_ret ?_
    | with_reducible refine t_k ?_
    | (with_reducible refine t_gF ?_)
    | ((first | with_reducible refine t_kE ?_ | with_reducible refine t_kD ?_ | with_reducible refine t_gS ?_ | with_reducible refine t_kL ?_ | (with_reducible refine t_kLE ?_ ?_; rotate_left) | with_reducible refine t_region fun K => ?_ | with_reducible refine t_draw (by kernel_rfl) fun K => ?_); simp only [go_sem, Int.cast_ofNat_Int, Nat.reduceEqDiff, reduceIte, Nat.reduceAdd, Nat.reduceMul, Nat.reduceLeDiff, Nat.reduceSub, Nat.reduceLT, Nat.zero_lt_succ, Int.reduceToNat, Int.reduceAdd, Int.reduceSub, Int.reduceMul, Int.reduceNeg, Int.reduceLT, Int.reduceLE, Int.reduceEq, Int.reduceBEq, Int.reduceBNe, Nat.reduceBEq, List.reduceReplicate, hg, hz, hw, e1, e3, e4, e5])
    | (with_reducible exact kp_nil)
    | (with_reducible exact Kp.refl _)
    | (with_reducible exact kp_to)
    | (with_reducible refine kp_cons ?_)
    | (with_reducible refine kp_arr ?_)
    | (with_reducible refine kp_app ?_)
    | ((with_reducible refine t_cond fun A B => ?_); simp only [go_sem, Int.cast_ofNat_Int, Nat.reduceEqDiff, reduceIte, Nat.reduceAdd, Nat.reduceMul, Nat.reduceLeDiff, Nat.reduceSub, Nat.reduceLT, Nat.zero_lt_succ, Int.reduceToNat, Int.reduceAdd, Int.reduceSub, Int.reduceMul, Int.reduceNeg, Int.reduceLT, Int.reduceLE, Int.reduceEq, Int.reduceBEq, Int.reduceBNe, Nat.reduceBEq, List.reduceReplicate, hg, hz, hw, e1, e3, e4, e5]; first | (with_reducible refine A.h ?_) | (with_reducible refine B.h ?_) | refine And.intro (fun hc => A.h ?_) (fun hc => B.h ?_))
    | simp only [thenQ_n, thenQ_r, thenQ_e, blockQ_n, blockQ_r, blockQ_e, scopeQ_n, scopeQ_r, scopeQ_e, Nat.reduceEqDiff, reduceIte]
    | (with_reducible refine And.intro ?_ ?_)
    | with_reducible intro vr)
  all_goals try (intros; (try simp only [Bool.and_eq_true, Bool.or_eq_true, Bool.not_eq_true', decide_eq_true_eq, decide_eq_false_iff_not, beq_iff_eq, bne_iff_ne, ne_eq, inI64, List.length_append] at *) <;> omega)
  refine t_loop (ι := { j : Nat // j ≤ k }) (fun j => ⟨upd (upd (upd (upd (upd topF 8 (.lit (.int .i64 (1 + (j.1 : Int))))) 7 (.lit (.int .u64 (valOf ((t.take j.1).map (chg 67)))))) 6 (.lit (.int .i64 k))) 5 (.lit (.int .i64 (8 - (k : Int))))) 0 (.sl b 1 (ints .u8 ((8 - (k : Int)) :: t))), []⟩) (fun j => k - j.1) ⟨0, by omega⟩ ?_ ?_
  · skip
    (refine Le.frame ?_; repeat' (first | exact leF_top _ | (with_reducible refine leF_sl ?_ ?_) | (refine leF_upd (LeR.of_eq ?_) ?_))) <;> (try (simp only [go_sem, Int.cast_ofNat_Int, Nat.reduceEqDiff, reduceIte, Nat.reduceAdd, Nat.reduceMul, Nat.reduceLeDiff, Nat.reduceSub, Nat.reduceLT, Nat.zero_lt_succ, Int.reduceToNat, Int.reduceAdd, Int.reduceSub, Int.reduceMul, Int.reduceNeg, Int.reduceLT, Int.reduceLE, Int.reduceEq, Int.reduceBEq, Int.reduceBNe, Nat.reduceBEq, List.reduceReplicate]; try rfl))
  · rintro ⟨j, hj⟩ K0
    rcases Nat.lt_or_ge j k with hjk | hjk
    · have g1 : decide (1 + (j : Int) ≤ (k : Int)) = true := decide_eq_true (by omega)
      have g2 : (1 + (j : Int)).toNat = j + 1 := by omega
      have hx := hb (t.getD j 0) (by rw [getD_elem _ _ (by omega)]; exact List.getElem_mem _)
      have hel : (ints .u8 ((8 - (k : Int)) :: t)).getD (j + 1) .top = .lit (.int .u8 (t.getD j 0)) := by
        rw [ints_cons, List.getD_cons_succ, ints_getD _ _ _ (by omega)]
      have hbj : byt ((t.take j).map (chg 67)) := by
        intro x hx
        obtain ⟨y, hy, rfl⟩ := List.mem_map.1 hx
        exact chg_bd y (hb y (List.mem_of_mem_take hy))
      have hvj := valOf_bd _ hbj
      have hlj : ((t.take j).map (chg 67)).length = j := by rw [List.length_map, List.length_take]; omega
      rw [hlj] at hvj
      have hp := pow_le7 (n := j) (by omega)
      have hcx := chg_bd (f := 67) (t.getD j 0) hx
      have hstep : valOf ((t.take (j + 1)).map (chg 67)) = valOf ((t.take j).map (chg 67)) * 256 + chg 67 (t.getD j 0) := by
        rw [take_next t 0 (by omega), List.map_append, List.map_cons, List.map_nil, valOf_snoc]
      have hor := or_byte hvj.1 (by omega) hcx.1 hcx.2
      have hw8 : IntKind.u64.wrap (chg 67 (t.getD j 0)) = chg 67 (t.getD j 0) := by rw [wrap_u64]; omega
      have hch : IntKind.u8.wrap (255 - t.getD j 0) = chg 67 (t.getD j 0) := by rfl
      repeat' (first
        | with_reducible refine t_seq fun K => ?_
        | with_reducible refine t_block ?_
        | with_reducible refine t_scope ?_
        | with_reducible refine t_label ?_
        | with_reducible refine t_skip ?_
        | with_reducible refine t_exit ?_
        | with_reducible refine t_ret ?_
        | with_reducible refine t_k ?_
        | (with_reducible refine t_gF ?_)
        | ((first | with_reducible refine t_kE ?_ | with_reducible refine t_kD ?_ | with_reducible refine t_gS ?_ | with_reducible refine t_kL ?_ | (with_reducible refine t_kLE ?_ ?_; rotate_left) | with_reducible refine t_region fun K => ?_ | with_reducible refine t_draw (by kernel_rfl) fun K => ?_); simp only [go_sem, Int.cast_ofNat_Int, Nat.reduceEqDiff, reduceIte, Nat.reduceAdd, Nat.reduceMul, Nat.reduceLeDiff, Nat.reduceSub, Nat.reduceLT, Nat.zero_lt_succ, Int.reduceToNat, Int.reduceAdd, Int.reduceSub, Int.reduceMul, Int.reduceNeg, Int.reduceLT, Int.reduceLE, Int.reduceEq, Int.reduceBEq, Int.reduceBNe, Nat.reduceBEq, List.reduceReplicate, hg, g1, g2, hel, e3, Nat.reduceSub])
        | (with_reducible exact kp_nil)
        | (with_reducible exact Kp.refl _)
        | (with_reducible exact kp_to)
        | (with_reducible refine kp_cons ?_)
        | (with_reducible refine kp_arr ?_)
        | (with_reducible refine kp_app ?_)
        | ((with_reducible refine t_cond fun A B => ?_); simp only [go_sem, Int.cast_ofNat_Int, Nat.reduceEqDiff, reduceIte, Nat.reduceAdd, Nat.reduceMul, Nat.reduceLeDiff, Nat.reduceSub, Nat.reduceLT, Nat.zero_lt_succ, Int.reduceToNat, Int.reduceAdd, Int.reduceSub, Int.reduceMul, Int.reduceNeg, Int.reduceLT, Int.reduceLE, Int.reduceEq, Int.reduceBEq, Int.reduceBNe, Nat.reduceBEq, List.reduceReplicate, hg, g1, g2, hel, e3, Nat.reduceSub]; first | (with_reducible refine A.h ?_) | (with_reducible refine B.h ?_) | refine And.intro (fun hc => A.h ?_) (fun hc => B.h ?_))
        | simp only [thenQ_n, thenQ_r, thenQ_e, blockQ_n, blockQ_r, blockQ_e, scopeQ_n, scopeQ_r, scopeQ_e, Nat.reduceEqDiff, reduceIte]
        | (with_reducible refine And.intro ?_ ?_)
        | with_reducible intro vr)
      all_goals try (intros; (try simp only [Bool.and_eq_true, Bool.or_eq_true, Bool.not_eq_true', decide_eq_true_eq, decide_eq_false_iff_not, beq_iff_eq, bne_iff_ne, ne_eq, inI64, List.length_append] at *) <;> omega)
      refine ⟨⟨j + 1, by omega⟩, by simp only; omega, ?_⟩
      (refine Le.frame ?_; repeat' (first | exact leF_top _ | (with_reducible refine leF_sl ?_ ?_) | (refine leF_upd (LeR.of_eq ?_) ?_))) <;> (try (simp only [go_sem, Int.cast_ofNat_Int, Nat.reduceEqDiff, reduceIte, Nat.reduceAdd, Nat.reduceMul, Nat.reduceLeDiff, Nat.reduceSub, Nat.reduceLT, Nat.zero_lt_succ, Int.reduceToNat, Int.reduceAdd, Int.reduceSub, Int.reduceMul, Int.reduceNeg, Int.reduceLT, Int.reduceLE, Int.reduceEq, Int.reduceBEq, Int.reduceBNe, Nat.reduceBEq, List.reduceReplicate]; try rfl))
      · rw [hch, hw8, hstep]; exact hor
    · have g1 : decide (1 + (j : Int) ≤ (k : Int)) = false := decide_eq_false (by omega)
      have hjk' : j = k := by omega
      subst hjk'
      by_cases hm : V > 9223372036854775687
      · have e6 : decide (V > 9223372036854775687) = true := decide_eq_true hm
        rw [if_neg (by omega)] at hRR
        subst hRR
        repeat' (first
          | with_reducible refine t_seq fun K => ?_
          | with_reducible refine t_block ?_
          | with_reducible refine t_scope ?_
          | with_reducible refine t_label ?_
          | with_reducible refine t_skip ?_
          | with_reducible refine t_exit ?_
          | with_reducible refine t_ret ?_
          | with_reducible refine t_k ?_
          | (with_reducible refine t_gF ?_)
          | ((first | with_reducible refine t_kE ?_ | with_reducible refine t_kD ?_ | with_reducible refine t_gS ?_ | with_reducible refine t_kL ?_ | (with_reducible refine t_kLE ?_ ?_; rotate_left) | with_reducible refine t_region fun K => ?_ | with_reducible refine t_draw (by kernel_rfl) fun K => ?_); simp only [go_sem, Int.cast_ofNat_Int, Nat.reduceEqDiff, reduceIte, Nat.reduceAdd, Nat.reduceMul, Nat.reduceLeDiff, Nat.reduceSub, Nat.reduceLT, Nat.zero_lt_succ, Int.reduceToNat, Int.reduceAdd, Int.reduceSub, Int.reduceMul, Int.reduceNeg, Int.reduceLT, Int.reduceLE, Int.reduceEq, Int.reduceBEq, Int.reduceBNe, Nat.reduceBEq, List.reduceReplicate, g1, e3, hVV, e6])
          | (with_reducible exact kp_nil)
          | (with_reducible exact Kp.refl _)
          | (with_reducible exact kp_to)
          | (with_reducible refine kp_cons ?_)
          | (with_reducible refine kp_arr ?_)
          | (with_reducible refine kp_app ?_)
          | ((with_reducible refine t_cond fun A B => ?_); simp only [go_sem, Int.cast_ofNat_Int, Nat.reduceEqDiff, reduceIte, Nat.reduceAdd, Nat.reduceMul, Nat.reduceLeDiff, Nat.reduceSub, Nat.reduceLT, Nat.zero_lt_succ, Int.reduceToNat, Int.reduceAdd, Int.reduceSub, Int.reduceMul, Int.reduceNeg, Int.reduceLT, Int.reduceLE, Int.reduceEq, Int.reduceBEq, Int.reduceBNe, Nat.reduceBEq, List.reduceReplicate, g1, e3, hVV, e6]; first | (with_reducible refine A.h ?_) | (with_reducible refine B.h ?_) | refine And.intro (fun hc => A.h ?_) (fun hc => B.h ?_))
          | simp only [thenQ_n, thenQ_r, thenQ_e, blockQ_n, blockQ_r, blockQ_e, scopeQ_n, scopeQ_r, scopeQ_e, Nat.reduceEqDiff, reduceIte]
          | (with_reducible refine And.intro ?_ ?_)
          | with_reducible intro vr)
        all_goals try (intros; (try simp only [Bool.and_eq_true, Bool.or_eq_true, Bool.not_eq_true', decide_eq_true_eq, decide_eq_false_iff_not, beq_iff_eq, bne_iff_ne, ne_eq, inI64, List.length_append] at *) <;> omega)
        refine end_ret rfl ?_
        simp only [fin, go_sem, Int.cast_ofNat_Int, Nat.reduceEqDiff, reduceIte, Nat.reduceAdd, Nat.reduceMul, Nat.reduceLeDiff, Nat.reduceSub, Nat.reduceLT, Nat.zero_lt_succ, Int.reduceToNat, Int.reduceAdd, Int.reduceSub, Int.reduceMul, Int.reduceNeg, Int.reduceLT, Int.reduceLE, Int.reduceEq, Int.reduceBEq, Int.reduceBNe, Nat.reduceBEq, List.reduceReplicate]
        exact LeA.refl _
      · have e6 : decide (V > 9223372036854775687) = false := decide_eq_false hm
        have hw2 : IntKind.i64.wrap V = V := wrap_i64 (by unfold inI64; omega)
        have hlen := enc_lo_len hV.1
        have hin : inI64 (-121 - V) := by unfold inI64; omega
        by_cases hwd : wid V = j
        · have e7 : ((1 + wid V : Nat) : Int) = 1 + (j : Int) := by omega
          have e8 : (((1 + wid V : Nat) : Int) != 1 + (j : Int)) = false := by rw [bne_eq_false_iff_eq]; omega
          rw [if_pos ⟨by omega, hwd⟩] at hRR
          subst hRR
          repeat' (first
            | with_reducible refine t_seq fun K => ?_
            | with_reducible refine t_block ?_
            | with_reducible refine t_scope ?_
            | with_reducible refine t_label ?_
            | with_reducible refine t_skip ?_
            | with_reducible refine t_exit ?_
            | with_reducible refine t_ret ?_
            | with_reducible refine t_k ?_
            | (with_reducible refine t_gF ?_)
            | ((first | with_reducible refine t_kE ?_ | with_reducible refine t_kD ?_ | with_reducible refine t_gS ?_ | with_reducible refine t_kL ?_ | (with_reducible refine t_kLE ?_ ?_; rotate_left) | with_reducible refine t_region fun K => ?_ | with_reducible refine t_draw (by kernel_rfl) fun K => ?_); simp only [go_sem, Int.cast_ofNat_Int, Nat.reduceEqDiff, reduceIte, Nat.reduceAdd, Nat.reduceMul, Nat.reduceLeDiff, Nat.reduceSub, Nat.reduceLT, Nat.zero_lt_succ, Int.reduceToNat, Int.reduceAdd, Int.reduceSub, Int.reduceMul, Int.reduceNeg, Int.reduceLT, Int.reduceLE, Int.reduceEq, Int.reduceBEq, Int.reduceBNe, Nat.reduceBEq, List.reduceReplicate, g1, e3, hVV, e6, hw2, con15_f, con15_c, slK_nil, hlen, e8, hin])
            | (with_reducible exact kp_nil)
            | (with_reducible exact Kp.refl _)
            | (with_reducible exact kp_to)
            | (with_reducible refine kp_cons ?_)
            | (with_reducible refine kp_arr ?_)
            | (with_reducible refine kp_app ?_)
            | ((with_reducible refine t_cond fun A B => ?_); simp only [go_sem, Int.cast_ofNat_Int, Nat.reduceEqDiff, reduceIte, Nat.reduceAdd, Nat.reduceMul, Nat.reduceLeDiff, Nat.reduceSub, Nat.reduceLT, Nat.zero_lt_succ, Int.reduceToNat, Int.reduceAdd, Int.reduceSub, Int.reduceMul, Int.reduceNeg, Int.reduceLT, Int.reduceLE, Int.reduceEq, Int.reduceBEq, Int.reduceBNe, Nat.reduceBEq, List.reduceReplicate, g1, e3, hVV, e6, hw2, con15_f, con15_c, slK_nil, hlen, e8, hin]; first | (with_reducible refine A.h ?_) | (with_reducible refine B.h ?_) | refine And.intro (fun hc => A.h ?_) (fun hc => B.h ?_))
            | simp only [thenQ_n, thenQ_r, thenQ_e, blockQ_n, blockQ_r, blockQ_e, scopeQ_n, scopeQ_r, scopeQ_e, Nat.reduceEqDiff, reduceIte]
            | (with_reducible refine And.intro ?_ ?_)
            | with_reducible intro vr)
          all_goals try (intros; (try simp only [Bool.and_eq_true, Bool.or_eq_true, Bool.not_eq_true', decide_eq_true_eq, decide_eq_false_iff_not, beq_iff_eq, bne_iff_ne, ne_eq, inI64, List.length_append] at *) <;> omega)
          refine end_ret rfl ?_
          simp only [fin, go_sem, Int.cast_ofNat_Int, Nat.reduceEqDiff, reduceIte, Nat.reduceAdd, Nat.reduceMul, Nat.reduceLeDiff, Nat.reduceSub, Nat.reduceLT, Nat.zero_lt_succ, Int.reduceToNat, Int.reduceAdd, Int.reduceSub, Int.reduceMul, Int.reduceNeg, Int.reduceLT, Int.reduceLE, Int.reduceEq, Int.reduceBEq, Int.reduceBNe, Nat.reduceBEq, List.reduceReplicate]
          refine LeA.tup ⟨LeA.refl _, LeA.slx ?_, LeA.refl _, trivial⟩
          rw [show (1 + (j : Int)).toNat = j + 1 by omega, List.take_length, List.drop_succ_cons]
        · have e8 : (((1 + wid V : Nat) : Int) != 1 + (j : Int)) = true := by rw [bne_iff_ne]; omega
          rw [if_neg (fun hc => hwd hc.2)] at hRR
          subst hRR
          repeat' (first
            | with_reducible refine t_seq fun K => ?_
            | with_reducible refine t_block ?_
            | with_reducible refine t_scope ?_
            | with_reducible refine t_label ?_
            | with_reducible refine t_skip ?_
            | with_reducible refine t_exit ?_
            | with_reducible refine t_ret ?_
            | with_reducible refine t_k ?_
            | (with_reducible refine t_gF ?_)
            | ((first | with_reducible refine t_kE ?_ | with_reducible refine t_kD ?_ | with_reducible refine t_gS ?_ | with_reducible refine t_kL ?_ | (with_reducible refine t_kLE ?_ ?_; rotate_left) | with_reducible refine t_region fun K => ?_ | with_reducible refine t_draw (by kernel_rfl) fun K => ?_); simp only [go_sem, Int.cast_ofNat_Int, Nat.reduceEqDiff, reduceIte, Nat.reduceAdd, Nat.reduceMul, Nat.reduceLeDiff, Nat.reduceSub, Nat.reduceLT, Nat.zero_lt_succ, Int.reduceToNat, Int.reduceAdd, Int.reduceSub, Int.reduceMul, Int.reduceNeg, Int.reduceLT, Int.reduceLE, Int.reduceEq, Int.reduceBEq, Int.reduceBNe, Nat.reduceBEq, List.reduceReplicate, g1, e3, hVV, e6, hw2, con15_f, con15_c, slK_nil, hlen, e8, hin])
            | (with_reducible exact kp_nil)
            | (with_reducible exact Kp.refl _)
            | (with_reducible exact kp_to)
            | (with_reducible refine kp_cons ?_)
            | (with_reducible refine kp_arr ?_)
            | (with_reducible refine kp_app ?_)
            | ((with_reducible refine t_cond fun A B => ?_); simp only [go_sem, Int.cast_ofNat_Int, Nat.reduceEqDiff, reduceIte, Nat.reduceAdd, Nat.reduceMul, Nat.reduceLeDiff, Nat.reduceSub, Nat.reduceLT, Nat.zero_lt_succ, Int.reduceToNat, Int.reduceAdd, Int.reduceSub, Int.reduceMul, Int.reduceNeg, Int.reduceLT, Int.reduceLE, Int.reduceEq, Int.reduceBEq, Int.reduceBNe, Nat.reduceBEq, List.reduceReplicate, g1, e3, hVV, e6, hw2, con15_f, con15_c, slK_nil, hlen, e8, hin]; first | (with_reducible refine A.h ?_) | (with_reducible refine B.h ?_) | refine And.intro (fun hc => A.h ?_) (fun hc => B.h ?_))
            | simp only [thenQ_n, thenQ_r, thenQ_e, blockQ_n, blockQ_r, blockQ_e, scopeQ_n, scopeQ_r, scopeQ_e, Nat.reduceEqDiff, reduceIte]
            | (with_reducible refine And.intro ?_ ?_)
            | with_reducible intro vr)
          all_goals try (intros; (try simp only [Bool.and_eq_true, Bool.or_eq_true, Bool.not_eq_true', decide_eq_true_eq, decide_eq_false_iff_not, beq_iff_eq, bne_iff_ne, ne_eq, inI64, List.length_append] at *) <;> omega)
          refine end_ret rfl ?_
          simp only [fin, go_sem, Int.cast_ofNat_Int, Nat.reduceEqDiff, reduceIte, Nat.reduceAdd, Nat.reduceMul, Nat.reduceLeDiff, Nat.reduceSub, Nat.reduceLT, Nat.zero_lt_succ, Int.reduceToNat, Int.reduceAdd, Int.reduceSub, Int.reduceMul, Int.reduceNeg, Int.reduceLT, Int.reduceLE, Int.reduceEq, Int.reduceBEq, Int.reduceBNe, Nat.reduceBEq, List.reduceReplicate]
          exact LeA.refl _
end Go.Proofs.Ytgkjocnfdllieaa

/- The methods of a source of the document. -/
namespace Go.Proofs.Ytgkjocnfdllieaa
open Go Go.Fw

noncomputable def integerCon : PCon Try.prog where
  f := 70
  c := fun
    | [x] => (slK .u8 x).map fun l => (okL l, decV (dec l))
    | _ => none
  ok := by
    intro args p r hc hp
    split at hc
    · rename_i x
      cases hx : slK .u8 x with
      | none => rw [hx] at hc; cases hc
      | some l =>
        rw [hx] at hc
        cases hc
        refine PC.weak (bs := [.sl false 1 (ints .u8 l)]) ?_ ⟨slK_le hx, trivial⟩
        cases l with
        | nil => exact intg_nil
        | cons c t =>
          have h0 := hp.2 c (by simp)
          have hl : t.length ≤ 900000 := by have := hp.1; simp at this; omega
          have hb : byt t := fun x hx => hp.2 x (by simp [hx])
          by_cases h1 : c ≥ 248
          · have e : c = 247 + ((c - 247).toNat : Int) := by omega
            have := intg_hi (b := false) (k := (c - 247).toNat) (by omega) (by omega) hl hb
            rwa [← e] at this
          · by_cases h2 : c ≤ 7
            · have e : c = 8 - ((8 - c).toNat : Int) := by omega
              have := intg_lo (b := false) (k := (8 - c).toNat) (by omega) (by omega) hl hb
              rwa [← e] at this
            · exact intg_mid h1 h2 h0 hl
    · cases hc
  fk := fk70
theorem integerCon_f : integerCon.f = 70 := rfl
theorem integerCon_c {x : AV} : integerCon.c [x] = (slK .u8 x).map fun l => (okL l, decV (dec l)) := rfl

/-- A source of the document. -/
def rsrc (l : List Int) (e : Int) : AObj := .box 43 [.sl false 1 (ints .u8 l), .lit (.int .i64 e)]
def rsrcAt (σ : List AObj) (o : Nat) (p : List AObj → List Int → Int → Prop) : Prop := withB 43 σ o fun σ' cs => match cs with
  | [.sl false 1 xs, .lit (.int .i64 e)] => withK .u8 xs fun l => p σ' l e
  | _ => False
theorem rsrcAt_inv {σ : List AObj} {o : Nat} {p : List AObj → List Int → Int → Prop} (h : rsrcAt σ o p) : ∃ σ' l e, Fw.clB σ o = some σ' ∧ σ'[o]? = some (rsrc l e) ∧ p σ' l e := by
  obtain ⟨σ', cs, h1, h2, h3⟩ := withB_inv h
  split at h3
  · obtain ⟨l, rfl, h4⟩ := withK_inv h3
    exact ⟨σ', l, _, h1, h2, h4⟩
  · exact h3.elim
theorem clB_rsrc {σ : List AObj} {o : Nat} {l : List Int} {e : Int} (ho : σ[o]? = some (rsrc l e)) : Fw.clB σ o = some σ := by
  unfold Fw.clB
  rw [ho]
  have ho' := ho
  unfold rsrc at ho'
  simp only [rsrc, ids_src, freezeL, List.foldl_nil, closeL0, close0, List.map_cons, List.map_nil, wk]
  rw [set_same ho']
theorem rsrcAt_src {σ : List AObj} {o : Nat} {l : List Int} {e : Int} (ho : σ[o]? = some (rsrc l e)) {p : List AObj → List Int → Int → Prop} : rsrcAt σ o p = p σ l e := by
  unfold rsrcAt withB
  rw [clB_rsrc ho]
  simp only [ho, rsrc, true_and, withK_ints]
theorem bds_rsrc {n : Nat} {σ : List AObj} (h : BdS n σ) (o : Nat) (l : List Int) (e : Int) : BdS n (σ.set o (rsrc l e)) := h.set o 43 (BdL.cons (Bd.sl _ _ _ _) (BdL.cons (Bd.lit _ _) BdL.nil))

noncomputable def E50 : Env := envOf (P := Try.prog) zer (fun _ => false) (fun _ => false) [integerCon] []
theorem E50_ok : EnvOk Try.prog E50 := envOk zer_ok
set_option maxHeartbeats 800000 in
theorem raw_ec {σ : List AObj} {o : Nat} {l : List Int} {e0 lo hi e : Int} (ho : σ[o]? = some (rsrc l e0)) (hl : okL l) {k : AV → List AObj → Prop}
    (hk : k (.lit (.int .i64 (numS l e0 lo hi e).1)) (σ.set o (rsrc (numS l e0 lo hi e).2.1 (numS l e0 lo hi e).2.2))) : EC Try.prog 68 [.ref o 0, .lit (.int .i64 lo), .lit (.int .i64 hi), .lit (.int .i64 e)] σ k := by
  unfold numS at hk
  have ho' := ho
  unfold rsrc at ho'
  by_cases h0 : e0 = 0
  · rw [if_neg (by omega)] at hk
    subst h0
    cases hd : dec l with
    | none =>
      simp only [hd] at hk
      refine ec_of E50_ok mixed (fun _ => [0, 1, 2, 3, 8, 9, 10, 11, 20, 31, 42]) Try.func68 rfl (by kernel_rfl) (Nat.le_of_ble_eq_true rfl) ?_
      simp only [initF_cons, initF_nil, Nat.reduceAdd]
      refine t_name fun KF => ?_
      unfold E50
      repeat' (first
        | with_reducible refine t_seq fun K => ?_
        | with_reducible refine t_block ?_
        | with_reducible refine t_scope ?_
        | with_reducible refine t_label ?_
        | with_reducible refine t_skip ?_
        | with_reducible refine t_exit ?_
        | with_reducible refine t_ret ?_
        | with_reducible refine t_k ?_
        | (with_reducible refine t_gF ?_)
        | ((first | with_reducible refine t_kE ?_ | with_reducible refine t_kD ?_ | with_reducible refine t_gS ?_ | with_reducible refine t_kL ?_ | (with_reducible refine t_kLE ?_ ?_; rotate_left) | with_reducible refine t_region fun K => ?_ | with_reducible refine t_draw (by kernel_rfl) fun K => ?_); simp only [go_sem, Int.cast_ofNat_Int, Nat.reduceEqDiff, reduceIte, Nat.reduceAdd, Nat.reduceMul, Nat.reduceLeDiff, Nat.reduceSub, Nat.reduceLT, Nat.zero_lt_succ, Int.reduceToNat, Int.reduceAdd, Int.reduceSub, Int.reduceMul, Int.reduceNeg, Int.reduceLT, Int.reduceLE, Int.reduceEq, Int.reduceBEq, Int.reduceBNe, Nat.reduceBEq, List.reduceReplicate, ho', get_set ho, integerCon_f, integerCon_c, slK_sl, hd, decV, hl])
        | (with_reducible exact kp_nil)
        | (with_reducible exact Kp.refl _)
        | (with_reducible exact kp_to)
        | (with_reducible refine kp_cons ?_)
        | (with_reducible refine kp_arr ?_)
        | (with_reducible refine kp_app ?_)
        | ((with_reducible refine t_cond fun A B => ?_); simp only [go_sem, Int.cast_ofNat_Int, Nat.reduceEqDiff, reduceIte, Nat.reduceAdd, Nat.reduceMul, Nat.reduceLeDiff, Nat.reduceSub, Nat.reduceLT, Nat.zero_lt_succ, Int.reduceToNat, Int.reduceAdd, Int.reduceSub, Int.reduceMul, Int.reduceNeg, Int.reduceLT, Int.reduceLE, Int.reduceEq, Int.reduceBEq, Int.reduceBNe, Nat.reduceBEq, List.reduceReplicate, ho', get_set ho, integerCon_f, integerCon_c, slK_sl, hd, decV, hl]; first | (with_reducible refine A.h ?_) | (with_reducible refine B.h ?_) | refine And.intro (fun hc => A.h ?_) (fun hc => B.h ?_))
        | simp only [thenQ_n, thenQ_r, thenQ_e, blockQ_n, blockQ_r, blockQ_e, scopeQ_n, scopeQ_r, scopeQ_e, Nat.reduceEqDiff, reduceIte]
        | (with_reducible refine And.intro ?_ ?_)
        | with_reducible intro vr)
      exact end_ret rfl hk
    | some nr =>
      obtain ⟨n, r⟩ := nr
      simp only [hd] at hk
      by_cases h1 : n < lo
      · have g1 : decide (n < lo) = true := decide_eq_true h1
        rw [if_pos (.inl h1)] at hk
        refine ec_of E50_ok mixed (fun _ => [0, 1, 2, 3, 8, 9, 10, 11, 20, 31, 42]) Try.func68 rfl (by kernel_rfl) (Nat.le_of_ble_eq_true rfl) ?_
        simp only [initF_cons, initF_nil, Nat.reduceAdd]
        refine t_name fun KF => ?_
        unfold E50
        repeat' (first
          | with_reducible refine t_seq fun K => ?_
          | with_reducible refine t_block ?_
          | with_reducible refine t_scope ?_
          | with_reducible refine t_label ?_
          | with_reducible refine t_skip ?_
          | with_reducible refine t_exit ?_
          | with_reducible refine t_ret ?_
          | with_reducible refine t_k ?_
          | (with_reducible refine t_gF ?_)
          | ((first | with_reducible refine t_kE ?_ | with_reducible refine t_kD ?_ | with_reducible refine t_gS ?_ | with_reducible refine t_kL ?_ | (with_reducible refine t_kLE ?_ ?_; rotate_left) | with_reducible refine t_region fun K => ?_ | with_reducible refine t_draw (by kernel_rfl) fun K => ?_); simp only [go_sem, Int.cast_ofNat_Int, Nat.reduceEqDiff, reduceIte, Nat.reduceAdd, Nat.reduceMul, Nat.reduceLeDiff, Nat.reduceSub, Nat.reduceLT, Nat.zero_lt_succ, Int.reduceToNat, Int.reduceAdd, Int.reduceSub, Int.reduceMul, Int.reduceNeg, Int.reduceLT, Int.reduceLE, Int.reduceEq, Int.reduceBEq, Int.reduceBNe, Nat.reduceBEq, List.reduceReplicate, ho', get_set ho, integerCon_f, integerCon_c, slK_sl, hd, decV, hl, g1])
          | (with_reducible exact kp_nil)
          | (with_reducible exact Kp.refl _)
          | (with_reducible exact kp_to)
          | (with_reducible refine kp_cons ?_)
          | (with_reducible refine kp_arr ?_)
          | (with_reducible refine kp_app ?_)
          | ((with_reducible refine t_cond fun A B => ?_); simp only [go_sem, Int.cast_ofNat_Int, Nat.reduceEqDiff, reduceIte, Nat.reduceAdd, Nat.reduceMul, Nat.reduceLeDiff, Nat.reduceSub, Nat.reduceLT, Nat.zero_lt_succ, Int.reduceToNat, Int.reduceAdd, Int.reduceSub, Int.reduceMul, Int.reduceNeg, Int.reduceLT, Int.reduceLE, Int.reduceEq, Int.reduceBEq, Int.reduceBNe, Nat.reduceBEq, List.reduceReplicate, ho', get_set ho, integerCon_f, integerCon_c, slK_sl, hd, decV, hl, g1]; first | (with_reducible refine A.h ?_) | (with_reducible refine B.h ?_) | refine And.intro (fun hc => A.h ?_) (fun hc => B.h ?_))
          | simp only [thenQ_n, thenQ_r, thenQ_e, blockQ_n, blockQ_r, blockQ_e, scopeQ_n, scopeQ_r, scopeQ_e, Nat.reduceEqDiff, reduceIte]
          | (with_reducible refine And.intro ?_ ?_)
          | with_reducible intro vr)
        exact end_ret rfl hk
      have g1 : decide (n < lo) = false := decide_eq_false h1
      by_cases h2 : n > hi
      · have g2 : decide (n > hi) = true := decide_eq_true h2
        rw [if_pos (.inr h2)] at hk
        refine ec_of E50_ok mixed (fun _ => [0, 1, 2, 3, 8, 9, 10, 11, 20, 31, 42]) Try.func68 rfl (by kernel_rfl) (Nat.le_of_ble_eq_true rfl) ?_
        simp only [initF_cons, initF_nil, Nat.reduceAdd]
        refine t_name fun KF => ?_
        unfold E50
        repeat' (first
          | with_reducible refine t_seq fun K => ?_
          | with_reducible refine t_block ?_
          | with_reducible refine t_scope ?_
          | with_reducible refine t_label ?_
          | with_reducible refine t_skip ?_
          | with_reducible refine t_exit ?_
          | with_reducible refine t_ret ?_
          | with_reducible refine t_k ?_
          | (with_reducible refine t_gF ?_)
          | ((first | with_reducible refine t_kE ?_ | with_reducible refine t_kD ?_ | with_reducible refine t_gS ?_ | with_reducible refine t_kL ?_ | (with_reducible refine t_kLE ?_ ?_; rotate_left) | with_reducible refine t_region fun K => ?_ | with_reducible refine t_draw (by kernel_rfl) fun K => ?_); simp only [go_sem, Int.cast_ofNat_Int, Nat.reduceEqDiff, reduceIte, Nat.reduceAdd, Nat.reduceMul, Nat.reduceLeDiff, Nat.reduceSub, Nat.reduceLT, Nat.zero_lt_succ, Int.reduceToNat, Int.reduceAdd, Int.reduceSub, Int.reduceMul, Int.reduceNeg, Int.reduceLT, Int.reduceLE, Int.reduceEq, Int.reduceBEq, Int.reduceBNe, Nat.reduceBEq, List.reduceReplicate, ho', get_set ho, integerCon_f, integerCon_c, slK_sl, hd, decV, hl, g1, g2])
          | (with_reducible exact kp_nil)
          | (with_reducible exact Kp.refl _)
          | (with_reducible exact kp_to)
          | (with_reducible refine kp_cons ?_)
          | (with_reducible refine kp_arr ?_)
          | (with_reducible refine kp_app ?_)
          | ((with_reducible refine t_cond fun A B => ?_); simp only [go_sem, Int.cast_ofNat_Int, Nat.reduceEqDiff, reduceIte, Nat.reduceAdd, Nat.reduceMul, Nat.reduceLeDiff, Nat.reduceSub, Nat.reduceLT, Nat.zero_lt_succ, Int.reduceToNat, Int.reduceAdd, Int.reduceSub, Int.reduceMul, Int.reduceNeg, Int.reduceLT, Int.reduceLE, Int.reduceEq, Int.reduceBEq, Int.reduceBNe, Nat.reduceBEq, List.reduceReplicate, ho', get_set ho, integerCon_f, integerCon_c, slK_sl, hd, decV, hl, g1, g2]; first | (with_reducible refine A.h ?_) | (with_reducible refine B.h ?_) | refine And.intro (fun hc => A.h ?_) (fun hc => B.h ?_))
          | simp only [thenQ_n, thenQ_r, thenQ_e, blockQ_n, blockQ_r, blockQ_e, scopeQ_n, scopeQ_r, scopeQ_e, Nat.reduceEqDiff, reduceIte]
          | (with_reducible refine And.intro ?_ ?_)
          | with_reducible intro vr)
        exact end_ret rfl hk
      · have g2 : decide (n > hi) = false := decide_eq_false h2
        rw [if_neg (by omega)] at hk
        refine ec_of E50_ok mixed (fun _ => [0, 1, 2, 3, 8, 9, 10, 11, 20, 31, 42]) Try.func68 rfl (by kernel_rfl) (Nat.le_of_ble_eq_true rfl) ?_
        simp only [initF_cons, initF_nil, Nat.reduceAdd]
        refine t_name fun KF => ?_
        unfold E50
        repeat' (first
          | with_reducible refine t_seq fun K => ?_
          | with_reducible refine t_block ?_
          | with_reducible refine t_scope ?_
          | with_reducible refine t_label ?_
          | with_reducible refine t_skip ?_
          | with_reducible refine t_exit ?_
          | with_reducible refine t_ret ?_
          | with_reducible refine t_k ?_
          | (with_reducible refine t_gF ?_)
          | ((first | with_reducible refine t_kE ?_ | with_reducible refine t_kD ?_ | with_reducible refine t_gS ?_ | with_reducible refine t_kL ?_ | (with_reducible refine t_kLE ?_ ?_; rotate_left) | with_reducible refine t_region fun K => ?_ | with_reducible refine t_draw (by kernel_rfl) fun K => ?_); simp only [go_sem, Int.cast_ofNat_Int, Nat.reduceEqDiff, reduceIte, Nat.reduceAdd, Nat.reduceMul, Nat.reduceLeDiff, Nat.reduceSub, Nat.reduceLT, Nat.zero_lt_succ, Int.reduceToNat, Int.reduceAdd, Int.reduceSub, Int.reduceMul, Int.reduceNeg, Int.reduceLT, Int.reduceLE, Int.reduceEq, Int.reduceBEq, Int.reduceBNe, Nat.reduceBEq, List.reduceReplicate, ho', get_set ho, integerCon_f, integerCon_c, slK_sl, hd, decV, hl, g1, g2])
          | (with_reducible exact kp_nil)
          | (with_reducible exact Kp.refl _)
          | (with_reducible exact kp_to)
          | (with_reducible refine kp_cons ?_)
          | (with_reducible refine kp_arr ?_)
          | (with_reducible refine kp_app ?_)
          | ((with_reducible refine t_cond fun A B => ?_); simp only [go_sem, Int.cast_ofNat_Int, Nat.reduceEqDiff, reduceIte, Nat.reduceAdd, Nat.reduceMul, Nat.reduceLeDiff, Nat.reduceSub, Nat.reduceLT, Nat.zero_lt_succ, Int.reduceToNat, Int.reduceAdd, Int.reduceSub, Int.reduceMul, Int.reduceNeg, Int.reduceLT, Int.reduceLE, Int.reduceEq, Int.reduceBEq, Int.reduceBNe, Nat.reduceBEq, List.reduceReplicate, ho', get_set ho, integerCon_f, integerCon_c, slK_sl, hd, decV, hl, g1, g2]; first | (with_reducible refine A.h ?_) | (with_reducible refine B.h ?_) | refine And.intro (fun hc => A.h ?_) (fun hc => B.h ?_))
          | simp only [thenQ_n, thenQ_r, thenQ_e, blockQ_n, blockQ_r, blockQ_e, scopeQ_n, scopeQ_r, scopeQ_e, Nat.reduceEqDiff, reduceIte]
          | (with_reducible refine And.intro ?_ ?_)
          | with_reducible intro vr)
        exact end_ret rfl hk
  · rw [if_pos h0] at hk
    have hz : (e0 != 0) = true := by simpa using h0
    refine ec_of E50_ok mixed (fun _ => [0, 1, 2, 3, 8, 9, 10, 11, 20, 31, 42]) Try.func68 rfl (by kernel_rfl) (Nat.le_of_ble_eq_true rfl) ?_
    simp only [initF_cons, initF_nil, Nat.reduceAdd]
    refine t_name fun KF => ?_
    unfold E50
    repeat' (first
      | with_reducible refine t_seq fun K => ?_
      | with_reducible refine t_block ?_
      | with_reducible refine t_scope ?_
      | with_reducible refine t_label ?_
      | with_reducible refine t_skip ?_
      | with_reducible refine t_exit ?_
      | with_reducible refine t_ret ?_
      | with_reducible refine t_k ?_
      | (with_reducible refine t_gF ?_)
      | ((first | with_reducible refine t_kE ?_ | with_reducible refine t_kD ?_ | with_reducible refine t_gS ?_ | with_reducible refine t_kL ?_ | (with_reducible refine t_kLE ?_ ?_; rotate_left) | with_reducible refine t_region fun K => ?_ | with_reducible refine t_draw (by kernel_rfl) fun K => ?_); simp only [go_sem, Int.cast_ofNat_Int, Nat.reduceEqDiff, reduceIte, Nat.reduceAdd, Nat.reduceMul, Nat.reduceLeDiff, Nat.reduceSub, Nat.reduceLT, Nat.zero_lt_succ, Int.reduceToNat, Int.reduceAdd, Int.reduceSub, Int.reduceMul, Int.reduceNeg, Int.reduceLT, Int.reduceLE, Int.reduceEq, Int.reduceBEq, Int.reduceBNe, Nat.reduceBEq, List.reduceReplicate, ho', get_set ho, hz])
      | (with_reducible exact kp_nil)
      | (with_reducible exact Kp.refl _)
      | (with_reducible exact kp_to)
      | (with_reducible refine kp_cons ?_)
      | (with_reducible refine kp_arr ?_)
      | (with_reducible refine kp_app ?_)
      | ((with_reducible refine t_cond fun A B => ?_); simp only [go_sem, Int.cast_ofNat_Int, Nat.reduceEqDiff, reduceIte, Nat.reduceAdd, Nat.reduceMul, Nat.reduceLeDiff, Nat.reduceSub, Nat.reduceLT, Nat.zero_lt_succ, Int.reduceToNat, Int.reduceAdd, Int.reduceSub, Int.reduceMul, Int.reduceNeg, Int.reduceLT, Int.reduceLE, Int.reduceEq, Int.reduceBEq, Int.reduceBNe, Nat.reduceBEq, List.reduceReplicate, ho', get_set ho, hz]; first | (with_reducible refine A.h ?_) | (with_reducible refine B.h ?_) | refine And.intro (fun hc => A.h ?_) (fun hc => B.h ?_))
      | simp only [thenQ_n, thenQ_r, thenQ_e, blockQ_n, blockQ_r, blockQ_e, scopeQ_n, scopeQ_r, scopeQ_e, Nat.reduceEqDiff, reduceIte]
      | (with_reducible refine And.intro ?_ ?_)
      | with_reducible intro vr)
    exact end_ret rfl (by rw [set_same ho] at hk; exact hk)
noncomputable def rawCon : ECon Try.prog where
  f := 68
  c := fun args σ k => match args with
    | [.ref o 0, .lit (.int .i64 lo), .lit (.int .i64 hi), .lit (.int .i64 e)] => rsrcAt σ o fun σ' l e0 => okL l ∧ k (.lit (.int .i64 (numS l e0 lo hi e).1)) (σ'.set o (rsrc (numS l e0 lo hi e).2.1 (numS l e0 lo hi e).2.2))
    | _ => False
  ok := by
    intro args σ k h
    split at h
    · obtain ⟨σ', l, e0, h1, h2, h3, h4⟩ := rsrcAt_inv h
      exact EC.clB h1 (raw_ec h2 h3 h4)
    · exact h.elim
  fk := fk68
theorem rawCon_f : rawCon.f = 68 := rfl
theorem rawCon_c {σ : List AObj} {k : AV → List AObj → Prop} {o : Nat} {lo hi e : Int} : rawCon.c [.ref o 0, .lit (.int .i64 lo), .lit (.int .i64 hi), .lit (.int .i64 e)] σ k =
  rsrcAt σ o fun σ' l e0 => okL l ∧ k (.lit (.int .i64 (numS l e0 lo hi e).1)) (σ'.set o (rsrc (numS l e0 lo hi e).2.1 (numS l e0 lo hi e).2.2)) := rfl
noncomputable def E51 : Env := envOf (P := Try.prog) zer (fun _ => false) (fun _ => false) [] [rawCon]
theorem E51_ok : EnvOk Try.prog E51 := envOk zer_ok
theorem rint_ec {σ : List AObj} {o : Nat} {l : List Int} {e0 lo hi : Int} (ho : σ[o]? = some (rsrc l e0)) (hl : okL l) {k : AV → List AObj → Prop}
    (hk : k (.lit (.int .i64 (numS l e0 lo hi 2).1)) (σ.set o (rsrc (numS l e0 lo hi 2).2.1 (numS l e0 lo hi 2).2.2))) : EC Try.prog 49 [.ref o 0, .lit (.int .i64 lo), .lit (.int .i64 hi)] σ k := by
  have hf : ∀ {p}, rsrcAt σ o p = p σ l e0 := rsrcAt_src ho
  refine ec_of E51_ok mixed (fun _ => [0, 1, 2, 6]) Try.func49 rfl (by kernel_rfl) (Nat.le_of_ble_eq_true rfl) ?_
  simp only [initF_cons, initF_nil, Nat.reduceAdd]
  refine t_name fun KF => ?_
  unfold E51
  repeat' (first
    | with_reducible refine t_seq fun K => ?_
    | with_reducible refine t_block ?_
    | with_reducible refine t_scope ?_
    | with_reducible refine t_label ?_
    | with_reducible refine t_skip ?_
    | with_reducible refine t_exit ?_
    | with_reducible refine t_ret ?_
    | with_reducible refine t_k ?_
    | (with_reducible refine t_gF ?_)
    | ((first | with_reducible refine t_kE ?_ | with_reducible refine t_kD ?_ | with_reducible refine t_gS ?_ | with_reducible refine t_kL ?_ | (with_reducible refine t_kLE ?_ ?_; rotate_left) | with_reducible refine t_region fun K => ?_ | with_reducible refine t_draw (by kernel_rfl) fun K => ?_); simp only [go_sem, Int.cast_ofNat_Int, Nat.reduceEqDiff, reduceIte, Nat.reduceAdd, Nat.reduceMul, Nat.reduceLeDiff, Nat.reduceSub, Nat.reduceLT, Nat.zero_lt_succ, Int.reduceToNat, Int.reduceAdd, Int.reduceSub, Int.reduceMul, Int.reduceNeg, Int.reduceLT, Int.reduceLE, Int.reduceEq, Int.reduceBEq, Int.reduceBNe, Nat.reduceBEq, List.reduceReplicate, rawCon_f, rawCon_c, hf, hl])
    | (with_reducible exact kp_nil)
    | (with_reducible exact Kp.refl _)
    | (with_reducible exact kp_to)
    | (with_reducible refine kp_cons ?_)
    | (with_reducible refine kp_arr ?_)
    | (with_reducible refine kp_app ?_)
    | ((with_reducible refine t_cond fun A B => ?_); simp only [go_sem, Int.cast_ofNat_Int, Nat.reduceEqDiff, reduceIte, Nat.reduceAdd, Nat.reduceMul, Nat.reduceLeDiff, Nat.reduceSub, Nat.reduceLT, Nat.zero_lt_succ, Int.reduceToNat, Int.reduceAdd, Int.reduceSub, Int.reduceMul, Int.reduceNeg, Int.reduceLT, Int.reduceLE, Int.reduceEq, Int.reduceBEq, Int.reduceBNe, Nat.reduceBEq, List.reduceReplicate, rawCon_f, rawCon_c, hf, hl]; first | (with_reducible refine A.h ?_) | (with_reducible refine B.h ?_) | refine And.intro (fun hc => A.h ?_) (fun hc => B.h ?_))
    | simp only [thenQ_n, thenQ_r, thenQ_e, blockQ_n, blockQ_r, blockQ_e, scopeQ_n, scopeQ_r, scopeQ_e, Nat.reduceEqDiff, reduceIte]
    | (with_reducible refine And.intro ?_ ?_)
    | with_reducible intro vr)
  exact end_ret rfl hk
theorem runS_num {l : List Int} {e0 lo hi e : Int} : numS l e0 lo hi e = runS 0 l e0 (numS l 0 lo hi e) := by
  unfold runS numS
  by_cases h : e0 = 0
  · subst h
    simp only [ne_eq, not_true_eq_false, if_false]
    cases dec l with
    | none => simp
    | some nr =>
      obtain ⟨n, r⟩ := nr
      simp only
      split
      · split
        · rfl
        · rename_i hx; simp only [Classical.not_not] at hx; simp [hx]
      · simp
  · rw [if_pos h, if_pos h]
theorem rbool_ec {σ : List AObj} {o : Nat} {l : List Int} {e0 : Int} (ho : σ[o]? = some (rsrc l e0)) (hl : okL l) {k : AV → List AObj → Prop}
    (hk : k (.lit (.bool (runS (false : Bool) l e0 (boolS l)).1)) (σ.set o (rsrc (runS (false : Bool) l e0 (boolS l)).2.1 (runS (false : Bool) l e0 (boolS l)).2.2))) : EC Try.prog 50 [.ref o 0] σ k := by
  have hf : ∀ {p}, rsrcAt σ o p = p σ l e0 := rsrcAt_src ho
  have hS : runS (false : Bool) l e0 (boolS l) = ((numS l e0 0 1 2).1 == 1, (numS l e0 0 1 2).2) := by
    rw [runS_num (l := l) (e0 := e0)]
    unfold runS boolS
    by_cases h : e0 = 0
    · subst h
      simp only [ne_eq, not_true_eq_false, if_false]
      split
      · rfl
      · rfl
    · rw [if_pos h, if_pos h]; rfl
  rw [hS] at hk
  refine ec_of E51_ok mixed (fun _ => [0, 2]) Try.func50 rfl (by kernel_rfl) (Nat.le_of_ble_eq_true rfl) ?_
  simp only [initF_cons, initF_nil, Nat.reduceAdd]
  refine t_name fun KF => ?_
  unfold E51
  repeat' (first
    | with_reducible refine t_seq fun K => ?_
    | with_reducible refine t_block ?_
    | with_reducible refine t_scope ?_
    | with_reducible refine t_label ?_
    | with_reducible refine t_skip ?_
    | with_reducible refine t_exit ?_
    | with_reducible refine t_ret ?_
    | with_reducible refine t_k ?_
    | (with_reducible refine t_gF ?_)
    | ((first | with_reducible refine t_kE ?_ | with_reducible refine t_kD ?_ | with_reducible refine t_gS ?_ | with_reducible refine t_kL ?_ | (with_reducible refine t_kLE ?_ ?_; rotate_left) | with_reducible refine t_region fun K => ?_ | with_reducible refine t_draw (by kernel_rfl) fun K => ?_); simp only [go_sem, Int.cast_ofNat_Int, Nat.reduceEqDiff, reduceIte, Nat.reduceAdd, Nat.reduceMul, Nat.reduceLeDiff, Nat.reduceSub, Nat.reduceLT, Nat.zero_lt_succ, Int.reduceToNat, Int.reduceAdd, Int.reduceSub, Int.reduceMul, Int.reduceNeg, Int.reduceLT, Int.reduceLE, Int.reduceEq, Int.reduceBEq, Int.reduceBNe, Nat.reduceBEq, List.reduceReplicate, rawCon_f, rawCon_c, hf, hl])
    | (with_reducible exact kp_nil)
    | (with_reducible exact Kp.refl _)
    | (with_reducible exact kp_to)
    | (with_reducible refine kp_cons ?_)
    | (with_reducible refine kp_arr ?_)
    | (with_reducible refine kp_app ?_)
    | ((with_reducible refine t_cond fun A B => ?_); simp only [go_sem, Int.cast_ofNat_Int, Nat.reduceEqDiff, reduceIte, Nat.reduceAdd, Nat.reduceMul, Nat.reduceLeDiff, Nat.reduceSub, Nat.reduceLT, Nat.zero_lt_succ, Int.reduceToNat, Int.reduceAdd, Int.reduceSub, Int.reduceMul, Int.reduceNeg, Int.reduceLT, Int.reduceLE, Int.reduceEq, Int.reduceBEq, Int.reduceBNe, Nat.reduceBEq, List.reduceReplicate, rawCon_f, rawCon_c, hf, hl]; first | (with_reducible refine A.h ?_) | (with_reducible refine B.h ?_) | refine And.intro (fun hc => A.h ?_) (fun hc => B.h ?_))
    | simp only [thenQ_n, thenQ_r, thenQ_e, blockQ_n, blockQ_r, blockQ_e, scopeQ_n, scopeQ_r, scopeQ_e, Nat.reduceEqDiff, reduceIte]
    | (with_reducible refine And.intro ?_ ?_)
    | with_reducible intro vr)
  exact end_ret rfl hk
theorem rfail_ec {σ : List AObj} {o : Nat} {l m : List Int} {e0 e : Int} (ho : σ[o]? = some (rsrc l e0)) {k : AV → List AObj → Prop} (hk : k (.tup []) (σ.set o (rsrc m e))) : EC Try.prog 69 [.ref o 0, .sl false 1 (ints .u8 m), .lit (.int .i64 e)] σ k := by
  have ho' := ho
  unfold rsrc at ho' hk
  refine ec_of E51_ok mixed (fun _ => [0, 1, 2]) Try.func69 rfl (by kernel_rfl) (Nat.le_of_ble_eq_true rfl) ?_
  simp only [initF_cons, initF_nil, Nat.reduceAdd]
  refine t_name fun KF => ?_
  unfold E51
  repeat' (first
    | with_reducible refine t_seq fun K => ?_
    | with_reducible refine t_block ?_
    | with_reducible refine t_scope ?_
    | with_reducible refine t_label ?_
    | with_reducible refine t_skip ?_
    | with_reducible refine t_exit ?_
    | with_reducible refine t_ret ?_
    | with_reducible refine t_k ?_
    | (with_reducible refine t_gF ?_)
    | ((first | with_reducible refine t_kE ?_ | with_reducible refine t_kD ?_ | with_reducible refine t_gS ?_ | with_reducible refine t_kL ?_ | (with_reducible refine t_kLE ?_ ?_; rotate_left) | with_reducible refine t_region fun K => ?_ | with_reducible refine t_draw (by kernel_rfl) fun K => ?_); simp only [go_sem, Int.cast_ofNat_Int, Nat.reduceEqDiff, reduceIte, Nat.reduceAdd, Nat.reduceMul, Nat.reduceLeDiff, Nat.reduceSub, Nat.reduceLT, Nat.zero_lt_succ, Int.reduceToNat, Int.reduceAdd, Int.reduceSub, Int.reduceMul, Int.reduceNeg, Int.reduceLT, Int.reduceLE, Int.reduceEq, Int.reduceBEq, Int.reduceBNe, Nat.reduceBEq, List.reduceReplicate, ho', get_set ho])
    | (with_reducible exact kp_nil)
    | (with_reducible exact Kp.refl _)
    | (with_reducible exact kp_to)
    | (with_reducible refine kp_cons ?_)
    | (with_reducible refine kp_arr ?_)
    | (with_reducible refine kp_app ?_)
    | ((with_reducible refine t_cond fun A B => ?_); simp only [go_sem, Int.cast_ofNat_Int, Nat.reduceEqDiff, reduceIte, Nat.reduceAdd, Nat.reduceMul, Nat.reduceLeDiff, Nat.reduceSub, Nat.reduceLT, Nat.zero_lt_succ, Int.reduceToNat, Int.reduceAdd, Int.reduceSub, Int.reduceMul, Int.reduceNeg, Int.reduceLT, Int.reduceLE, Int.reduceEq, Int.reduceBEq, Int.reduceBNe, Nat.reduceBEq, List.reduceReplicate, ho', get_set ho]; first | (with_reducible refine A.h ?_) | (with_reducible refine B.h ?_) | refine And.intro (fun hc => A.h ?_) (fun hc => B.h ?_))
    | simp only [thenQ_n, thenQ_r, thenQ_e, blockQ_n, blockQ_r, blockQ_e, scopeQ_n, scopeQ_r, scopeQ_e, Nat.reduceEqDiff, reduceIte]
    | (with_reducible refine And.intro ?_ ?_)
    | with_reducible intro vr)
  exact end_norm rfl hk
noncomputable def rfailCon : ECon Try.prog where
  f := 69
  c := fun args σ k => match args with
    | [.ref o 0, .sl false 1 xs, .lit (.int .i64 e)] => withK .u8 xs fun m => rsrcAt σ o fun σ' _ _ => k (.tup []) (σ'.set o (rsrc m e))
    | _ => False
  ok := by
    intro args σ k h
    split at h
    · obtain ⟨m, rfl, h'⟩ := withK_inv h
      obtain ⟨σ', l, e0, h1, h2, h3⟩ := rsrcAt_inv h'
      exact EC.clB h1 (rfail_ec h2 h3)
    · exact h.elim
  fk := fk69
theorem rfailCon_f : rfailCon.f = 69 := rfl
theorem rfailCon_c {σ : List AObj} {k : AV → List AObj → Prop} {o : Nat} {xs : List AV} {e : Int} : rfailCon.c [.ref o 0, .sl false 1 xs, .lit (.int .i64 e)] σ k = withK .u8 xs fun m => rsrcAt σ o fun σ' _ _ => k (.tup []) (σ'.set o (rsrc m e)) := rfl
noncomputable def E52 : Env := envOf (P := Try.prog) zer (fun _ => false) (fun _ => false) [] [rawCon, rfailCon]
theorem E52_ok : EnvOk Try.prog E52 := envOk zer_ok
set_option maxHeartbeats 800000 in
theorem rtxt_ec {σ : List AObj} {o : Nat} {l : List Int} {e0 most : Int} (ho : σ[o]? = some (rsrc l e0)) (hl : okL l) {k : AV → List AObj → Prop}
    (hk : k (.lit (.string (runS (⟨#[]⟩ : ByteArray) l e0 (wordS l 0 most)).1)) (σ.set o (rsrc (runS (⟨#[]⟩ : ByteArray) l e0 (wordS l 0 most)).2.1 (runS (⟨#[]⟩ : ByteArray) l e0 (wordS l 0 most)).2.2))) : EC Try.prog 51 [.ref o 0, .lit (.int .i64 most)] σ k := by
  have ho' := ho
  unfold rsrc at ho'
  have hf : ∀ {p}, rsrcAt σ o p = p σ l e0 := rsrcAt_src ho
  unfold runS at hk
  by_cases h0 : e0 = 0
  · subst h0
    rw [if_neg (by simp)] at hk
    obtain ⟨h1, h2, h3⟩ := numS_ok (lo := 0) (hi := most) (e := 3) hl (by decide)
    unfold wordS at hk
    generalize hN : numS l 0 0 most 3 = a at hk h1 h2 h3
    obtain ⟨n, r, e⟩ := a
    simp only at hk h1 h2 h3
    have hlen := okL_len h1
    by_cases he : e = 0
    · subst he
      obtain ⟨_, hn0, _, hn⟩ := h2 rfl
      have hf2 : ∀ {p}, rsrcAt (σ.set o (.box 43 [.sl false 1 (ints .u8 r), .lit (.int .i64 0)])) o p = p (σ.set o (rsrc r 0)) r 0 := rsrcAt_src (get_set ho _)
      simp only [ne_eq, not_true_eq_false, if_false] at hk
      by_cases hc : (r.length : Int) < n
      · simp only [if_pos hc] at hk
        rw [if_pos (by decide)] at hk
        have hc' : decide (n > (r.length : Int)) = true := decide_eq_true hc
        refine ec_of E52_ok mixed (fun _ => [0, 1, 4, 5, 6, 7, 16, 28, 35]) Try.func51 rfl (by kernel_rfl) (Nat.le_of_ble_eq_true rfl) ?_
        simp only [initF_cons, initF_nil, Nat.reduceAdd]
        refine t_name fun KF => ?_
        unfold E52
        repeat' (first
          | with_reducible refine t_seq fun K => ?_
          | with_reducible refine t_block ?_
          | with_reducible refine t_scope ?_
          | with_reducible refine t_label ?_
          | with_reducible refine t_skip ?_
          | with_reducible refine t_exit ?_
          | with_reducible refine t_ret ?_
          | with_reducible refine t_k ?_
          | (with_reducible refine t_gF ?_)
          | ((first | with_reducible refine t_kE ?_ | with_reducible refine t_kD ?_ | with_reducible refine t_gS ?_ | with_reducible refine t_kL ?_ | (with_reducible refine t_kLE ?_ ?_; rotate_left) | with_reducible refine t_region fun K => ?_ | with_reducible refine t_draw (by kernel_rfl) fun K => ?_); simp only [go_sem, Int.cast_ofNat_Int, Nat.reduceEqDiff, reduceIte, Nat.reduceAdd, Nat.reduceMul, Nat.reduceLeDiff, Nat.reduceSub, Nat.reduceLT, Nat.zero_lt_succ, Int.reduceToNat, Int.reduceAdd, Int.reduceSub, Int.reduceMul, Int.reduceNeg, Int.reduceLT, Int.reduceLE, Int.reduceEq, Int.reduceBEq, Int.reduceBNe, Nat.reduceBEq, List.reduceReplicate, ho', rawCon_f, rawCon_c, hf, hl, hN, get_set ho, rsrc, hc', rfailCon_f, rfailCon_c, hf2, withK_ints])
          | (with_reducible exact kp_nil)
          | (with_reducible exact Kp.refl _)
          | (with_reducible exact kp_to)
          | (with_reducible refine kp_cons ?_)
          | (with_reducible refine kp_arr ?_)
          | (with_reducible refine kp_app ?_)
          | ((with_reducible refine t_cond fun A B => ?_); simp only [go_sem, Int.cast_ofNat_Int, Nat.reduceEqDiff, reduceIte, Nat.reduceAdd, Nat.reduceMul, Nat.reduceLeDiff, Nat.reduceSub, Nat.reduceLT, Nat.zero_lt_succ, Int.reduceToNat, Int.reduceAdd, Int.reduceSub, Int.reduceMul, Int.reduceNeg, Int.reduceLT, Int.reduceLE, Int.reduceEq, Int.reduceBEq, Int.reduceBNe, Nat.reduceBEq, List.reduceReplicate, ho', rawCon_f, rawCon_c, hf, hl, hN, get_set ho, rsrc, hc', rfailCon_f, rfailCon_c, hf2, withK_ints]; first | (with_reducible refine A.h ?_) | (with_reducible refine B.h ?_) | refine And.intro (fun hc => A.h ?_) (fun hc => B.h ?_))
          | simp only [thenQ_n, thenQ_r, thenQ_e, blockQ_n, blockQ_r, blockQ_e, scopeQ_n, scopeQ_r, scopeQ_e, Nat.reduceEqDiff, reduceIte]
          | (with_reducible refine And.intro ?_ ?_)
          | with_reducible intro vr)
        exact end_ret rfl hk
      · simp only [if_neg hc] at hk
        rw [if_neg (by simp)] at hk
        have hc' : decide (n > (r.length : Int)) = false := decide_eq_false hc
        refine ec_of E52_ok mixed (fun _ => [0, 1, 4, 5, 6, 7, 16, 28, 35]) Try.func51 rfl (by kernel_rfl) (Nat.le_of_ble_eq_true rfl) ?_
        simp only [initF_cons, initF_nil, Nat.reduceAdd]
        refine t_name fun KF => ?_
        unfold E52
        repeat' (first
          | with_reducible refine t_seq fun K => ?_
          | with_reducible refine t_block ?_
          | with_reducible refine t_scope ?_
          | with_reducible refine t_label ?_
          | with_reducible refine t_skip ?_
          | with_reducible refine t_exit ?_
          | with_reducible refine t_ret ?_
          | with_reducible refine t_k ?_
          | (with_reducible refine t_gF ?_)
          | ((first | with_reducible refine t_kE ?_ | with_reducible refine t_kD ?_ | with_reducible refine t_gS ?_ | with_reducible refine t_kL ?_ | (with_reducible refine t_kLE ?_ ?_; rotate_left) | with_reducible refine t_region fun K => ?_ | with_reducible refine t_draw (by kernel_rfl) fun K => ?_); simp only [go_sem, Int.cast_ofNat_Int, Nat.reduceEqDiff, reduceIte, Nat.reduceAdd, Nat.reduceMul, Nat.reduceLeDiff, Nat.reduceSub, Nat.reduceLT, Nat.zero_lt_succ, Int.reduceToNat, Int.reduceAdd, Int.reduceSub, Int.reduceMul, Int.reduceNeg, Int.reduceLT, Int.reduceLE, Int.reduceEq, Int.reduceBEq, Int.reduceBNe, Nat.reduceBEq, List.reduceReplicate, ho', rawCon_f, rawCon_c, hf, hl, hN, get_set ho, rsrc, hc', rfailCon_f, List.take_length])
          | (with_reducible exact kp_nil)
          | (with_reducible exact Kp.refl _)
          | (with_reducible exact kp_to)
          | (with_reducible refine kp_cons ?_)
          | (with_reducible refine kp_arr ?_)
          | (with_reducible refine kp_app ?_)
          | ((with_reducible refine t_cond fun A B => ?_); simp only [go_sem, Int.cast_ofNat_Int, Nat.reduceEqDiff, reduceIte, Nat.reduceAdd, Nat.reduceMul, Nat.reduceLeDiff, Nat.reduceSub, Nat.reduceLT, Nat.zero_lt_succ, Int.reduceToNat, Int.reduceAdd, Int.reduceSub, Int.reduceMul, Int.reduceNeg, Int.reduceLT, Int.reduceLE, Int.reduceEq, Int.reduceBEq, Int.reduceBNe, Nat.reduceBEq, List.reduceReplicate, ho', rawCon_f, rawCon_c, hf, hl, hN, get_set ho, rsrc, hc', rfailCon_f, List.take_length]; first | (with_reducible refine A.h ?_) | (with_reducible refine B.h ?_) | refine And.intro (fun hc => A.h ?_) (fun hc => B.h ?_))
          | simp only [thenQ_n, thenQ_r, thenQ_e, blockQ_n, blockQ_r, blockQ_e, scopeQ_n, scopeQ_r, scopeQ_e, Nat.reduceEqDiff, reduceIte]
          | (with_reducible refine And.intro ?_ ?_)
          | with_reducible intro vr)
        all_goals try (intros; (try simp only [Bool.and_eq_true, Bool.or_eq_true, Bool.not_eq_true', decide_eq_true_eq, decide_eq_false_iff_not, beq_iff_eq, bne_iff_ne, ne_eq, inI64, List.length_append] at *) <;> omega)
        exact end_ret rfl hk
    · simp only [ne_eq, he, not_false_eq_true, if_true] at hk
      obtain ⟨rfl, rfl⟩ := h3 he
      have hz : (e != 0) = true := by simpa using he
      refine ec_of E52_ok mixed (fun _ => [0, 1, 4, 5, 6, 7, 16, 28, 35]) Try.func51 rfl (by kernel_rfl) (Nat.le_of_ble_eq_true rfl) ?_
      simp only [initF_cons, initF_nil, Nat.reduceAdd]
      refine t_name fun KF => ?_
      unfold E52
      repeat' (first
        | with_reducible refine t_seq fun K => ?_
        | with_reducible refine t_block ?_
        | with_reducible refine t_scope ?_
        | with_reducible refine t_label ?_
        | with_reducible refine t_skip ?_
        | with_reducible refine t_exit ?_
        | with_reducible refine t_ret ?_
        | with_reducible refine t_k ?_
        | (with_reducible refine t_gF ?_)
        | ((first | with_reducible refine t_kE ?_ | with_reducible refine t_kD ?_ | with_reducible refine t_gS ?_ | with_reducible refine t_kL ?_ | (with_reducible refine t_kLE ?_ ?_; rotate_left) | with_reducible refine t_region fun K => ?_ | with_reducible refine t_draw (by kernel_rfl) fun K => ?_); simp only [go_sem, Int.cast_ofNat_Int, Nat.reduceEqDiff, reduceIte, Nat.reduceAdd, Nat.reduceMul, Nat.reduceLeDiff, Nat.reduceSub, Nat.reduceLT, Nat.zero_lt_succ, Int.reduceToNat, Int.reduceAdd, Int.reduceSub, Int.reduceMul, Int.reduceNeg, Int.reduceLT, Int.reduceLE, Int.reduceEq, Int.reduceBEq, Int.reduceBNe, Nat.reduceBEq, List.reduceReplicate, ho', rawCon_f, rawCon_c, hf, hl, hN, get_set ho, rsrc, hz])
        | (with_reducible exact kp_nil)
        | (with_reducible exact Kp.refl _)
        | (with_reducible exact kp_to)
        | (with_reducible refine kp_cons ?_)
        | (with_reducible refine kp_arr ?_)
        | (with_reducible refine kp_app ?_)
        | ((with_reducible refine t_cond fun A B => ?_); simp only [go_sem, Int.cast_ofNat_Int, Nat.reduceEqDiff, reduceIte, Nat.reduceAdd, Nat.reduceMul, Nat.reduceLeDiff, Nat.reduceSub, Nat.reduceLT, Nat.zero_lt_succ, Int.reduceToNat, Int.reduceAdd, Int.reduceSub, Int.reduceMul, Int.reduceNeg, Int.reduceLT, Int.reduceLE, Int.reduceEq, Int.reduceBEq, Int.reduceBNe, Nat.reduceBEq, List.reduceReplicate, ho', rawCon_f, rawCon_c, hf, hl, hN, get_set ho, rsrc, hz]; first | (with_reducible refine A.h ?_) | (with_reducible refine B.h ?_) | refine And.intro (fun hc => A.h ?_) (fun hc => B.h ?_))
        | simp only [thenQ_n, thenQ_r, thenQ_e, blockQ_n, blockQ_r, blockQ_e, scopeQ_n, scopeQ_r, scopeQ_e, Nat.reduceEqDiff, reduceIte]
        | (with_reducible refine And.intro ?_ ?_)
        | with_reducible intro vr)
      exact end_ret rfl hk
  · rw [if_pos h0, set_same ho] at hk
    have hz : (e0 != 0) = true := by simpa using h0
    refine ec_of E52_ok mixed (fun _ => [0, 1, 4, 5, 6, 7, 16, 28, 35]) Try.func51 rfl (by kernel_rfl) (Nat.le_of_ble_eq_true rfl) ?_
    simp only [initF_cons, initF_nil, Nat.reduceAdd]
    refine t_name fun KF => ?_
    unfold E52
    repeat' (first
      | with_reducible refine t_seq fun K => ?_
      | with_reducible refine t_block ?_
      | with_reducible refine t_scope ?_
      | with_reducible refine t_label ?_
      | with_reducible refine t_skip ?_
      | with_reducible refine t_exit ?_
      | with_reducible refine t_ret ?_
      | with_reducible refine t_k ?_
      | (with_reducible refine t_gF ?_)
      | ((first | with_reducible refine t_kE ?_ | with_reducible refine t_kD ?_ | with_reducible refine t_gS ?_ | with_reducible refine t_kL ?_ | (with_reducible refine t_kLE ?_ ?_; rotate_left) | with_reducible refine t_region fun K => ?_ | with_reducible refine t_draw (by kernel_rfl) fun K => ?_); simp only [go_sem, Int.cast_ofNat_Int, Nat.reduceEqDiff, reduceIte, Nat.reduceAdd, Nat.reduceMul, Nat.reduceLeDiff, Nat.reduceSub, Nat.reduceLT, Nat.zero_lt_succ, Int.reduceToNat, Int.reduceAdd, Int.reduceSub, Int.reduceMul, Int.reduceNeg, Int.reduceLT, Int.reduceLE, Int.reduceEq, Int.reduceBEq, Int.reduceBNe, Nat.reduceBEq, List.reduceReplicate, ho', get_set ho, hz])
      | (with_reducible exact kp_nil)
      | (with_reducible exact Kp.refl _)
      | (with_reducible exact kp_to)
      | (with_reducible refine kp_cons ?_)
      | (with_reducible refine kp_arr ?_)
      | (with_reducible refine kp_app ?_)
      | ((with_reducible refine t_cond fun A B => ?_); simp only [go_sem, Int.cast_ofNat_Int, Nat.reduceEqDiff, reduceIte, Nat.reduceAdd, Nat.reduceMul, Nat.reduceLeDiff, Nat.reduceSub, Nat.reduceLT, Nat.zero_lt_succ, Int.reduceToNat, Int.reduceAdd, Int.reduceSub, Int.reduceMul, Int.reduceNeg, Int.reduceLT, Int.reduceLE, Int.reduceEq, Int.reduceBEq, Int.reduceBNe, Nat.reduceBEq, List.reduceReplicate, ho', get_set ho, hz]; first | (with_reducible refine A.h ?_) | (with_reducible refine B.h ?_) | refine And.intro (fun hc => A.h ?_) (fun hc => B.h ?_))
      | simp only [thenQ_n, thenQ_r, thenQ_e, blockQ_n, blockQ_r, blockQ_e, scopeQ_n, scopeQ_r, scopeQ_e, Nat.reduceEqDiff, reduceIte]
      | (with_reducible refine And.intro ?_ ?_)
      | with_reducible intro vr)
    exact end_ret rfl hk
noncomputable def rtxtCon : ECon Try.prog where
  f := 51
  c := fun args σ k => match args with
    | [.ref o 0, .lit (.int .i64 most)] => rsrcAt σ o fun σ' l e0 => okL l ∧ k (.lit (.string (runS (⟨#[]⟩ : ByteArray) l e0 (wordS l 0 most)).1)) (σ'.set o (rsrc (runS (⟨#[]⟩ : ByteArray) l e0 (wordS l 0 most)).2.1 (runS (⟨#[]⟩ : ByteArray) l e0 (wordS l 0 most)).2.2))
    | _ => False
  ok := by
    intro args σ k h
    split at h
    · obtain ⟨σ', l, e0, h1, h2, h3, h4⟩ := rsrcAt_inv h
      exact EC.clB h1 (rtxt_ec h2 h3 h4)
    · exact h.elim
  fk := fk51
theorem rtxtCon_f : rtxtCon.f = 51 := rfl
theorem rtxtCon_c {σ : List AObj} {k : AV → List AObj → Prop} {o : Nat} {most : Int} : rtxtCon.c [.ref o 0, .lit (.int .i64 most)] σ k =
  rsrcAt σ o fun σ' l e0 => okL l ∧ k (.lit (.string (runS (⟨#[]⟩ : ByteArray) l e0 (wordS l 0 most)).1)) (σ'.set o (rsrc (runS (⟨#[]⟩ : ByteArray) l e0 (wordS l 0 most)).2.1 (runS (⟨#[]⟩ : ByteArray) l e0 (wordS l 0 most)).2.2)) := rfl
/-- Readings that differ at an error alone. -/
def Sim {α : Type} (one two : List Int → Int → α × List Int × Int) : Prop := ∀ l, okL l → (one l 0).2.2 = (two l 0).2.2 ∧ ((one l 0).2.2 = 0 → one l 0 = two l 0)
theorem sim_iter {α : Type} {one two : List Int → Int → α × List Int × Int} (hS : Sim one two) (hR : Rd one) : ∀ (n : Nat) (out : List α) (r : List Int), okL r →
    (iterS one n (out, r, 0)).2.2 = (iterS two n (out, r, 0)).2.2 ∧ ((iterS one n (out, r, 0)).2.2 = 0 → iterS one n (out, r, 0) = iterS two n (out, r, 0))
  | 0, out, r, _ => ⟨rfl, fun _ => rfl⟩
  | n + 1, out, r, h => by
    rw [iterS_step, iterS_step]
    obtain ⟨h1, h2⟩ := hS r h
    by_cases he : (one r 0).2.2 = 0
    · have e := h2 he
      have hr := (hR r h).1
      rw [← e]
      have e3 := trip he
      rw [e3]
      exact sim_iter hS hR n _ _ hr
    · rw [iterS_done (by exact he), iterS_done (by show (two r 0).2.2 ≠ 0; rw [← h1]; exact he)]
      exact ⟨h1, fun hx => absurd hx he⟩
theorem sim_many {α : Type} {one two : List Int → Int → α × List Int × Int} (hS : Sim one two) (hR : Rd one) {l : List Int} {most : Int} (h : okL l) {z : List α} : runS z l 0 (manyS one l 0 most) = runS z l 0 (manyS two l 0 most) := by
  have hk : (manyS one l 0 most).2.2 = (manyS two l 0 most).2.2 ∧ ((manyS one l 0 most).2.2 = 0 → manyS one l 0 most = manyS two l 0 most) := by
    unfold manyS
    by_cases he : (numS l 0 0 most 3).2.2 = 0
    · have hr := (numS_ok (lo := 0) (hi := most) (e := 3) h (by decide)).1
      have e3 := trip he
      rw [e3]
      exact sim_iter hS hR _ _ _ hr
    · rw [iterS_done (by exact he), iterS_done (by exact he)]
      exact ⟨rfl, fun _ => rfl⟩
  unfold runS
  simp only [ne_eq, not_true_eq_false, if_false]
  rw [← hk.1]
  by_cases he : (manyS one l 0 most).2.2 = 0
  · simp only [he, not_true_eq_false, if_false]; exact hk.2 he
  · simp only [he, not_false_eq_true, if_true]
theorem sim_word {most : Int} : Sim (fun l e => runS (⟨#[]⟩ : ByteArray) l e (wordS l 0 most)) (fun l e => wordS l e most) := fun l h => by
  simp only [runS]
  rw [if_neg (by simp)]
  by_cases he : (wordS l 0 most).2.2 = 0
  · rw [if_neg (by simpa using he)]; exact ⟨rfl, fun _ => rfl⟩
  · rw [if_pos he]; exact ⟨rfl, fun hx => absurd hx he⟩
theorem rd_rword {most : Int} : Rd fun l e => runS (⟨#[]⟩ : ByteArray) l e (wordS l 0 most) := fun l h => by
  have hw := rd_word (most := most) l h
  simp only at hw
  simp only [runS]
  rw [if_neg (by simp)]
  by_cases he : (wordS l 0 most).2.2 = 0
  · rw [if_neg (by simpa using he)]; exact hw
  · rw [if_pos he]; exact ⟨h, Nat.le_refl _, fun hx => absurd hx he⟩
noncomputable def REI : Env := envOf (P := Try.prog) zer (fun _ => false) (fun _ => false) [] [rawCon, rtxtCon]
theorem REI_ok : EnvOk Try.prog REI := envOk zer_ok
set_option maxHeartbeats 1000000 in
theorem rmanyI_ec {σ : List AObj} {o : Nat} {l : List Int} {e0 most lo hi : Int} (ho : σ[o]? = some (rsrc l e0)) (hl : okL l) {k : AV → List AObj → Prop}
    (hk : k (.sl false 1 (ints .i64 (runS ([] : List Int) l e0 (manyS (fun l e => numS l e lo hi 2) l 0 most)).1)) (σ.set o (rsrc (runS ([] : List Int) l e0 (manyS (fun l e => numS l e lo hi 2) l 0 most)).2.1 (runS ([] : List Int) l e0 (manyS (fun l e => numS l e lo hi 2) l 0 most)).2.2))) :
    EC Try.prog 52 [.ref o 0, .lit (.int .i64 most), .lit (.int .i64 lo), .lit (.int .i64 hi)] σ k := by
  refine ec_fin fun hbd => ?_
  have ho' := ho
  unfold rsrc at ho'
  have hf : ∀ {p}, rsrcAt σ o p = p σ l e0 := rsrcAt_src ho
  by_cases h0 : e0 = 0
  rotate_left
  · unfold runS at hk
    rw [if_pos h0, set_same ho] at hk
    have hz : (e0 != 0) = true := by simpa using h0
    refine ec_of REI_ok mixed (fun _ => [0, 1, 2, 3, 8, 9, 10, 11, 12, 21, 38, 52]) Try.func52 rfl (by kernel_rfl) (Nat.le_of_ble_eq_true rfl) ?_
    simp only [initF_cons, initF_nil, Nat.reduceAdd]
    refine t_name fun KF => ?_
    unfold REI
    repeat' (first
      | with_reducible refine t_seq fun K => ?_
      | with_reducible refine t_block ?_
      | with_reducible refine t_scope ?_
      | with_reducible refine t_label ?_
      | with_reducible refine t_skip ?_
      | with_reducible refine t_exit ?_
      | with_reducible refine t_ret ?_
      | with_reducible refine t_k ?_
      | (with_reducible refine t_gF ?_)
      | ((first | with_reducible refine t_kE ?_ | with_reducible refine t_kD ?_ | with_reducible refine t_gS ?_ | with_reducible refine t_kL ?_ | (with_reducible refine t_kLE ?_ ?_; rotate_left) | with_reducible refine t_region fun K => ?_ | with_reducible refine t_draw (by kernel_rfl) fun K => ?_); simp only [go_sem, Int.cast_ofNat_Int, Nat.reduceEqDiff, reduceIte, Nat.reduceAdd, Nat.reduceMul, Nat.reduceLeDiff, Nat.reduceSub, Nat.reduceLT, Nat.zero_lt_succ, Int.reduceToNat, Int.reduceAdd, Int.reduceSub, Int.reduceMul, Int.reduceNeg, Int.reduceLT, Int.reduceLE, Int.reduceEq, Int.reduceBEq, Int.reduceBNe, Nat.reduceBEq, List.reduceReplicate, ho', get_set ho, hz])
      | (with_reducible exact kp_nil)
      | (with_reducible exact Kp.refl _)
      | (with_reducible exact kp_to)
      | (with_reducible refine kp_cons ?_)
      | (with_reducible refine kp_arr ?_)
      | (with_reducible refine kp_app ?_)
      | ((with_reducible refine t_cond fun A B => ?_); simp only [go_sem, Int.cast_ofNat_Int, Nat.reduceEqDiff, reduceIte, Nat.reduceAdd, Nat.reduceMul, Nat.reduceLeDiff, Nat.reduceSub, Nat.reduceLT, Nat.zero_lt_succ, Int.reduceToNat, Int.reduceAdd, Int.reduceSub, Int.reduceMul, Int.reduceNeg, Int.reduceLT, Int.reduceLE, Int.reduceEq, Int.reduceBEq, Int.reduceBNe, Nat.reduceBEq, List.reduceReplicate, ho', get_set ho, hz]; first | (with_reducible refine A.h ?_) | (with_reducible refine B.h ?_) | refine And.intro (fun hc => A.h ?_) (fun hc => B.h ?_))
      | simp only [thenQ_n, thenQ_r, thenQ_e, blockQ_n, blockQ_r, blockQ_e, scopeQ_n, scopeQ_r, scopeQ_e, Nat.reduceEqDiff, reduceIte]
      | (with_reducible refine And.intro ?_ ?_)
      | with_reducible intro vr)
    refine end_ret rfl ?_
    simp only [finE, go_sem, Int.cast_ofNat_Int, Nat.reduceEqDiff, reduceIte, Nat.reduceAdd, Nat.reduceMul, Nat.reduceLeDiff, Nat.reduceSub, Nat.reduceLT, Nat.zero_lt_succ, Int.reduceToNat, Int.reduceAdd, Int.reduceSub, Int.reduceMul, Int.reduceNeg, Int.reduceLT, Int.reduceLE, Int.reduceEq, Int.reduceBEq, Int.reduceBNe, Nat.reduceBEq, List.reduceReplicate]
    exact ⟨_, _, rfl, LeA.nil false 1, by simpa using hbd, by simpa [strs, ints] using hk⟩
  subst h0
  obtain ⟨h1, h2, h3⟩ := numS_ok (lo := 0) (hi := most) (e := 3) hl (by decide)
  have hR : Rd (fun l e => numS l e lo hi 2) := (rd_num (by decide))
  unfold manyS at hk
  generalize hN : numS l 0 0 most 3 = a at hk h1 h2 h3
  obtain ⟨n, r0, e0⟩ := a
  simp only at hk h1 h2 h3
  have hlen := okL_len h1
  have hsr : ∀ {r e m p}, rsrcAt (σ.set o (.box 43 [.sl false 1 (ints .u8 r), .lit (.int .i64 e)]) ++ m) o p = p (σ.set o (rsrc r e) ++ m) r e := rsrcAt_src (lk_o ho _ _)
  have hn9 : inI64 n := by
    by_cases he : e0 = 0
    · exact (h2 he).2.2.2
    · rw [(h3 he).1]; exact ⟨by decide, by decide⟩
  unfold inI64 at hn9
  refine ec_of REI_ok mixed (fun _ => [0, 1, 2, 3, 8, 9, 10, 11, 12, 21, 38, 52]) Try.func52 rfl (by kernel_rfl) (Nat.le_of_ble_eq_true rfl) ?_
  simp only [initF_cons, initF_nil, Nat.reduceAdd]
  refine t_name fun KF => ?_
  unfold REI
  repeat' (first
    | with_reducible refine t_seq fun K => ?_
    | with_reducible refine t_block ?_
    | with_reducible refine t_scope ?_
    | with_reducible refine t_label ?_
    | with_reducible refine t_skip ?_
    | with_reducible refine t_exit ?_
    | with_reducible refine t_ret ?_
    | with_reducible refine t_k ?_
    | (with_reducible refine t_gF ?_)
    | ((first | with_reducible refine t_kE ?_ | with_reducible refine t_kD ?_ | with_reducible refine t_gS ?_ | with_reducible refine t_kL ?_ | (with_reducible refine t_kLE ?_ ?_; rotate_left) | with_reducible refine t_region fun K => ?_ | with_reducible refine t_draw (by kernel_rfl) fun K => ?_); simp only [go_sem, Int.cast_ofNat_Int, Nat.reduceEqDiff, reduceIte, Nat.reduceAdd, Nat.reduceMul, Nat.reduceLeDiff, Nat.reduceSub, Nat.reduceLT, Nat.zero_lt_succ, Int.reduceToNat, Int.reduceAdd, Int.reduceSub, Int.reduceMul, Int.reduceNeg, Int.reduceLT, Int.reduceLE, Int.reduceEq, Int.reduceBEq, Int.reduceBNe, Nat.reduceBEq, List.reduceReplicate, ho', rawCon_f, rawCon_c, hf, hl, hN, rsrc, get_set ho])
    | (with_reducible exact kp_nil)
    | (with_reducible exact Kp.refl _)
    | (with_reducible exact kp_to)
    | (with_reducible refine kp_cons ?_)
    | (with_reducible refine kp_arr ?_)
    | (with_reducible refine kp_app ?_)
    | ((with_reducible refine t_cond fun A B => ?_); simp only [go_sem, Int.cast_ofNat_Int, Nat.reduceEqDiff, reduceIte, Nat.reduceAdd, Nat.reduceMul, Nat.reduceLeDiff, Nat.reduceSub, Nat.reduceLT, Nat.zero_lt_succ, Int.reduceToNat, Int.reduceAdd, Int.reduceSub, Int.reduceMul, Int.reduceNeg, Int.reduceLT, Int.reduceLE, Int.reduceEq, Int.reduceBEq, Int.reduceBNe, Nat.reduceBEq, List.reduceReplicate, ho', rawCon_f, rawCon_c, hf, hl, hN, rsrc, get_set ho]; first | (with_reducible refine A.h ?_) | (with_reducible refine B.h ?_) | refine And.intro (fun hc => A.h ?_) (fun hc => B.h ?_))
    | simp only [thenQ_n, thenQ_r, thenQ_e, blockQ_n, blockQ_r, blockQ_e, scopeQ_n, scopeQ_r, scopeQ_e, Nat.reduceEqDiff, reduceIte]
    | (with_reducible refine And.intro ?_ ?_)
    | with_reducible intro vr)
  refine t_loop (ι := Lp (fun l e => numS l e lo hi 2) n.toNat (iterS (fun l e => numS l e lo hi 2) n.toNat ([], r0, e0))) (fun p => ⟨upd (upd (upd (upd (upd (upd (upd topF 12 (.lit (.int .i64 p.i))) 11 (.arr σ.length p.ver)) 10 (.lit (.int .i64 n))) 9 (.sl false 1 (ints .u8 l))) 3 (.lit (.int .i64 hi))) 2 (.lit (.int .i64 lo))) 0 (.ref o 0),
    σ.set o (rsrc p.r p.e) ++ [.arr 3 1 (ints .i64 p.out) p.ver false]⟩) (fun p => n.toNat - p.i) ⟨0, [], r0, e0, 0, rfl, h1, rfl, by simp only [List.length_nil]; omega, fun _ => by simp only [List.length_nil]; omega⟩ ?_ ?_
  · refine (le_nil 11 3 1 rfl).trans ?_
    (refine Le.frame ?_; repeat' (first | exact leF_top _ | (with_reducible refine leF_sl ?_ ?_) | (refine leF_upd (LeR.of_eq ?_) ?_))) <;> (try (simp only [go_sem, Int.cast_ofNat_Int, Nat.reduceEqDiff, reduceIte, Nat.reduceAdd, Nat.reduceMul, Nat.reduceLeDiff, Nat.reduceSub, Nat.reduceLT, Nat.zero_lt_succ, Int.reduceToNat, Int.reduceAdd, Int.reduceSub, Int.reduceMul, Int.reduceNeg, Int.reduceLT, Int.reduceLE, Int.reduceEq, Int.reduceBEq, Int.reduceBNe, Nat.reduceBEq, List.reduceReplicate]; try rfl))
  · rintro ⟨i, out, r, e, ver, hF, hr, hil, hb, hb0⟩ K0
    have hend : decide ((i : Int) < n) = false ∨ e ≠ 0 → iterS (fun l e => numS l e lo hi 2) n.toNat ([], r0, e0) = (out, r, e) := by
      rintro (h | h)
      · rw [← hF, show n.toNat - i = 0 by rw [decide_eq_false_iff_not] at h; omega]; rfl
      · rw [← hF]; exact iterS_done h
    rcases Int.lt_or_le (i : Int) n with hc | hc
    · have g1 : decide ((i : Int) < n) = true := decide_eq_true hc
      by_cases he : e = 0
      · subst he
        have hd := hR r hr
        rw [show n.toNat - i = (n.toNat - (i + 1)) + 1 by omega, iterS_step] at hF
        simp only at hF hd
        generalize hO : numS r 0 lo hi 2 = z at hF hd
        obtain ⟨x, r', e'⟩ := z
        simp only at hF hd
        have hb0 := hb0 rfl
        repeat' (first
          | with_reducible refine t_seq fun K => ?_
          | with_reducible refine t_block ?_
          | with_reducible refine t_scope ?_
          | with_reducible refine t_label ?_
          | with_reducible refine t_skip ?_
          | with_reducible refine t_exit ?_
          | with_reducible refine t_ret ?_
          | with_reducible refine t_k ?_
          | (with_reducible refine t_gF ?_)
          | ((first | with_reducible refine t_kE ?_ | with_reducible refine t_kD ?_ | with_reducible refine t_gS ?_ | with_reducible refine t_kL ?_ | (with_reducible refine t_kLE ?_ ?_; rotate_left) | with_reducible refine t_region fun K => ?_ | with_reducible refine t_draw (by kernel_rfl) fun K => ?_); simp only [go_sem, Int.cast_ofNat_Int, Nat.reduceEqDiff, reduceIte, Nat.reduceAdd, Nat.reduceMul, Nat.reduceLeDiff, Nat.reduceSub, Nat.reduceLT, Nat.zero_lt_succ, Int.reduceToNat, Int.reduceAdd, Int.reduceSub, Int.reduceMul, Int.reduceNeg, Int.reduceLT, Int.reduceLE, Int.reduceEq, Int.reduceBEq, Int.reduceBNe, Nat.reduceBEq, List.reduceReplicate, g1, lk_o ho, lk_e, st_e, st_o ho, hsr, rsrc, rawCon_f, rawCon_c, rtxtCon_f, rtxtCon_c, hr, hO])
          | (with_reducible exact kp_nil)
          | (with_reducible exact Kp.refl _)
          | (with_reducible exact kp_to)
          | (with_reducible refine kp_cons ?_)
          | (with_reducible refine kp_arr ?_)
          | (with_reducible refine kp_app ?_)
          | ((with_reducible refine t_cond fun A B => ?_); simp only [go_sem, Int.cast_ofNat_Int, Nat.reduceEqDiff, reduceIte, Nat.reduceAdd, Nat.reduceMul, Nat.reduceLeDiff, Nat.reduceSub, Nat.reduceLT, Nat.zero_lt_succ, Int.reduceToNat, Int.reduceAdd, Int.reduceSub, Int.reduceMul, Int.reduceNeg, Int.reduceLT, Int.reduceLE, Int.reduceEq, Int.reduceBEq, Int.reduceBNe, Nat.reduceBEq, List.reduceReplicate, g1, lk_o ho, lk_e, st_e, st_o ho, hsr, rsrc, rawCon_f, rawCon_c, rtxtCon_f, rtxtCon_c, hr, hO]; first | (with_reducible refine A.h ?_) | (with_reducible refine B.h ?_) | refine And.intro (fun hc => A.h ?_) (fun hc => B.h ?_))
          | simp only [thenQ_n, thenQ_r, thenQ_e, blockQ_n, blockQ_r, blockQ_e, scopeQ_n, scopeQ_r, scopeQ_e, Nat.reduceEqDiff, reduceIte]
          | (with_reducible refine And.intro ?_ ?_)
          | with_reducible intro vr)
        all_goals try (intros; (try simp only [Bool.and_eq_true, Bool.or_eq_true, Bool.not_eq_true', decide_eq_true_eq, decide_eq_false_iff_not, beq_iff_eq, bne_iff_ne, ne_eq, inI64, List.length_append] at *) <;> omega)
        refine ⟨⟨i + 1, out ++ [x], r', e', ver + 1, hF, hd.1, by simp only [List.length_append, List.length_singleton]; omega, by simp only [List.length_append, List.length_singleton]; omega, fun h => by have := hd.2.2 h; simp only [List.length_append, List.length_singleton]; omega⟩, by simp only; omega, ?_⟩
        (refine Le.frame ?_; repeat' (first | exact leF_top _ | (with_reducible refine leF_sl ?_ ?_) | (refine leF_upd (LeR.of_eq ?_) ?_))) <;> (try (simp only [go_sem, Int.cast_ofNat_Int, Nat.reduceEqDiff, reduceIte, Nat.reduceAdd, Nat.reduceMul, Nat.reduceLeDiff, Nat.reduceSub, Nat.reduceLT, Nat.zero_lt_succ, Int.reduceToNat, Int.reduceAdd, Int.reduceSub, Int.reduceMul, Int.reduceNeg, Int.reduceLT, Int.reduceLE, Int.reduceEq, Int.reduceBEq, Int.reduceBNe, Nat.reduceBEq, List.reduceReplicate]; try rfl))
      · have hz : (e == 0) = false := by simpa using he
        have hz' : (e != 0) = true := by simpa using he
        rw [hend (.inr he)] at hk
        unfold runS at hk
        rw [if_neg (by simp), if_pos (by exact he)] at hk
        repeat' (first
          | with_reducible refine t_seq fun K => ?_
          | with_reducible refine t_block ?_
          | with_reducible refine t_scope ?_
          | with_reducible refine t_label ?_
          | with_reducible refine t_skip ?_
          | with_reducible refine t_exit ?_
          | with_reducible refine t_ret ?_
          | with_reducible refine t_k ?_
          | (with_reducible refine t_gF ?_)
          | ((first | with_reducible refine t_kE ?_ | with_reducible refine t_kD ?_ | with_reducible refine t_gS ?_ | with_reducible refine t_kL ?_ | (with_reducible refine t_kLE ?_ ?_; rotate_left) | with_reducible refine t_region fun K => ?_ | with_reducible refine t_draw (by kernel_rfl) fun K => ?_); simp only [go_sem, Int.cast_ofNat_Int, Nat.reduceEqDiff, reduceIte, Nat.reduceAdd, Nat.reduceMul, Nat.reduceLeDiff, Nat.reduceSub, Nat.reduceLT, Nat.zero_lt_succ, Int.reduceToNat, Int.reduceAdd, Int.reduceSub, Int.reduceMul, Int.reduceNeg, Int.reduceLT, Int.reduceLE, Int.reduceEq, Int.reduceBEq, Int.reduceBNe, Nat.reduceBEq, List.reduceReplicate, g1, lk_o ho, hz, hz', rsrc, st_o ho])
          | (with_reducible exact kp_nil)
          | (with_reducible exact Kp.refl _)
          | (with_reducible exact kp_to)
          | (with_reducible refine kp_cons ?_)
          | (with_reducible refine kp_arr ?_)
          | (with_reducible refine kp_app ?_)
          | ((with_reducible refine t_cond fun A B => ?_); simp only [go_sem, Int.cast_ofNat_Int, Nat.reduceEqDiff, reduceIte, Nat.reduceAdd, Nat.reduceMul, Nat.reduceLeDiff, Nat.reduceSub, Nat.reduceLT, Nat.zero_lt_succ, Int.reduceToNat, Int.reduceAdd, Int.reduceSub, Int.reduceMul, Int.reduceNeg, Int.reduceLT, Int.reduceLE, Int.reduceEq, Int.reduceBEq, Int.reduceBNe, Nat.reduceBEq, List.reduceReplicate, g1, lk_o ho, hz, hz', rsrc, st_o ho]; first | (with_reducible refine A.h ?_) | (with_reducible refine B.h ?_) | refine And.intro (fun hc => A.h ?_) (fun hc => B.h ?_))
          | simp only [thenQ_n, thenQ_r, thenQ_e, blockQ_n, blockQ_r, blockQ_e, scopeQ_n, scopeQ_r, scopeQ_e, Nat.reduceEqDiff, reduceIte]
          | (with_reducible refine And.intro ?_ ?_)
          | with_reducible intro vr)
        refine end_ret rfl ?_
        simp only [finE, go_sem, Int.cast_ofNat_Int, Nat.reduceEqDiff, reduceIte, Nat.reduceAdd, Nat.reduceMul, Nat.reduceLeDiff, Nat.reduceSub, Nat.reduceLT, Nat.zero_lt_succ, Int.reduceToNat, Int.reduceAdd, Int.reduceSub, Int.reduceMul, Int.reduceNeg, Int.reduceLT, Int.reduceLE, Int.reduceEq, Int.reduceBEq, Int.reduceBNe, Nat.reduceBEq, List.reduceReplicate, lk_e, st_e, tk_e]
        exact ⟨_, _, rfl, LeA.nil false 1, bds_rsrc hbd o _ _, hk⟩
    · have g1 : decide ((i : Int) < n) = false := decide_eq_false (by omega)
      rw [hend (.inl g1)] at hk
      unfold runS at hk
      rw [if_neg (by simp)] at hk
      by_cases he : e = 0
      · subst he
        rw [if_neg (by simp)] at hk
        repeat' (first
          | with_reducible refine t_seq fun K => ?_
          | with_reducible refine t_block ?_
          | with_reducible refine t_scope ?_
          | with_reducible refine t_label ?_
          | with_reducible refine t_skip ?_
          | with_reducible refine t_exit ?_
          | with_reducible refine t_ret ?_
          | with_reducible refine t_k ?_
          | (with_reducible refine t_gF ?_)
          | ((first | with_reducible refine t_kE ?_ | with_reducible refine t_kD ?_ | with_reducible refine t_gS ?_ | with_reducible refine t_kL ?_ | (with_reducible refine t_kLE ?_ ?_; rotate_left) | with_reducible refine t_region fun K => ?_ | with_reducible refine t_draw (by kernel_rfl) fun K => ?_); simp only [go_sem, Int.cast_ofNat_Int, Nat.reduceEqDiff, reduceIte, Nat.reduceAdd, Nat.reduceMul, Nat.reduceLeDiff, Nat.reduceSub, Nat.reduceLT, Nat.zero_lt_succ, Int.reduceToNat, Int.reduceAdd, Int.reduceSub, Int.reduceMul, Int.reduceNeg, Int.reduceLT, Int.reduceLE, Int.reduceEq, Int.reduceBEq, Int.reduceBNe, Nat.reduceBEq, List.reduceReplicate, g1, lk_o ho, rsrc])
          | (with_reducible exact kp_nil)
          | (with_reducible exact Kp.refl _)
          | (with_reducible exact kp_to)
          | (with_reducible refine kp_cons ?_)
          | (with_reducible refine kp_arr ?_)
          | (with_reducible refine kp_app ?_)
          | ((with_reducible refine t_cond fun A B => ?_); simp only [go_sem, Int.cast_ofNat_Int, Nat.reduceEqDiff, reduceIte, Nat.reduceAdd, Nat.reduceMul, Nat.reduceLeDiff, Nat.reduceSub, Nat.reduceLT, Nat.zero_lt_succ, Int.reduceToNat, Int.reduceAdd, Int.reduceSub, Int.reduceMul, Int.reduceNeg, Int.reduceLT, Int.reduceLE, Int.reduceEq, Int.reduceBEq, Int.reduceBNe, Nat.reduceBEq, List.reduceReplicate, g1, lk_o ho, rsrc]; first | (with_reducible refine A.h ?_) | (with_reducible refine B.h ?_) | refine And.intro (fun hc => A.h ?_) (fun hc => B.h ?_))
          | simp only [thenQ_n, thenQ_r, thenQ_e, blockQ_n, blockQ_r, blockQ_e, scopeQ_n, scopeQ_r, scopeQ_e, Nat.reduceEqDiff, reduceIte]
          | (with_reducible refine And.intro ?_ ?_)
          | with_reducible intro vr)
        refine end_ret rfl ?_
        simp only [finE, go_sem, Int.cast_ofNat_Int, Nat.reduceEqDiff, reduceIte, Nat.reduceAdd, Nat.reduceMul, Nat.reduceLeDiff, Nat.reduceSub, Nat.reduceLT, Nat.zero_lt_succ, Int.reduceToNat, Int.reduceAdd, Int.reduceSub, Int.reduceMul, Int.reduceNeg, Int.reduceLT, Int.reduceLE, Int.reduceEq, Int.reduceBEq, Int.reduceBNe, Nat.reduceBEq, List.reduceReplicate, lk_e, st_e, tk_e]
        exact ⟨_, _, rfl, LeA.refl _, bds_rsrc hbd o _ _, hk⟩
      · have hz' : (e != 0) = true := by simpa using he
        rw [if_pos (by exact he)] at hk
        repeat' (first
          | with_reducible refine t_seq fun K => ?_
          | with_reducible refine t_block ?_
          | with_reducible refine t_scope ?_
          | with_reducible refine t_label ?_
          | with_reducible refine t_skip ?_
          | with_reducible refine t_exit ?_
          | with_reducible refine t_ret ?_
          | with_reducible refine t_k ?_
          | (with_reducible refine t_gF ?_)
          | ((first | with_reducible refine t_kE ?_ | with_reducible refine t_kD ?_ | with_reducible refine t_gS ?_ | with_reducible refine t_kL ?_ | (with_reducible refine t_kLE ?_ ?_; rotate_left) | with_reducible refine t_region fun K => ?_ | with_reducible refine t_draw (by kernel_rfl) fun K => ?_); simp only [go_sem, Int.cast_ofNat_Int, Nat.reduceEqDiff, reduceIte, Nat.reduceAdd, Nat.reduceMul, Nat.reduceLeDiff, Nat.reduceSub, Nat.reduceLT, Nat.zero_lt_succ, Int.reduceToNat, Int.reduceAdd, Int.reduceSub, Int.reduceMul, Int.reduceNeg, Int.reduceLT, Int.reduceLE, Int.reduceEq, Int.reduceBEq, Int.reduceBNe, Nat.reduceBEq, List.reduceReplicate, g1, lk_o ho, hz', rsrc, st_o ho])
          | (with_reducible exact kp_nil)
          | (with_reducible exact Kp.refl _)
          | (with_reducible exact kp_to)
          | (with_reducible refine kp_cons ?_)
          | (with_reducible refine kp_arr ?_)
          | (with_reducible refine kp_app ?_)
          | ((with_reducible refine t_cond fun A B => ?_); simp only [go_sem, Int.cast_ofNat_Int, Nat.reduceEqDiff, reduceIte, Nat.reduceAdd, Nat.reduceMul, Nat.reduceLeDiff, Nat.reduceSub, Nat.reduceLT, Nat.zero_lt_succ, Int.reduceToNat, Int.reduceAdd, Int.reduceSub, Int.reduceMul, Int.reduceNeg, Int.reduceLT, Int.reduceLE, Int.reduceEq, Int.reduceBEq, Int.reduceBNe, Nat.reduceBEq, List.reduceReplicate, g1, lk_o ho, hz', rsrc, st_o ho]; first | (with_reducible refine A.h ?_) | (with_reducible refine B.h ?_) | refine And.intro (fun hc => A.h ?_) (fun hc => B.h ?_))
          | simp only [thenQ_n, thenQ_r, thenQ_e, blockQ_n, blockQ_r, blockQ_e, scopeQ_n, scopeQ_r, scopeQ_e, Nat.reduceEqDiff, reduceIte]
          | (with_reducible refine And.intro ?_ ?_)
          | with_reducible intro vr)
        refine end_ret rfl ?_
        simp only [finE, go_sem, Int.cast_ofNat_Int, Nat.reduceEqDiff, reduceIte, Nat.reduceAdd, Nat.reduceMul, Nat.reduceLeDiff, Nat.reduceSub, Nat.reduceLT, Nat.zero_lt_succ, Int.reduceToNat, Int.reduceAdd, Int.reduceSub, Int.reduceMul, Int.reduceNeg, Int.reduceLT, Int.reduceLE, Int.reduceEq, Int.reduceBEq, Int.reduceBNe, Nat.reduceBEq, List.reduceReplicate, lk_e, st_e, tk_e]
        exact ⟨_, _, rfl, LeA.nil false 1, bds_rsrc hbd o _ _, hk⟩
noncomputable def RET : Env := envOf (P := Try.prog) zer (fun _ => false) (fun _ => false) [] [rawCon, rtxtCon]
theorem RET_ok : EnvOk Try.prog RET := envOk zer_ok
set_option maxHeartbeats 1000000 in
theorem rmanyT_ec {σ : List AObj} {o : Nat} {l : List Int} {e0 most long : Int} (ho : σ[o]? = some (rsrc l e0)) (hl : okL l) {k : AV → List AObj → Prop}
    (hk : k (.sl false 1 (strs (runS ([] : List ByteArray) l e0 (manyS (fun l e => runS (⟨#[]⟩ : ByteArray) l e (wordS l 0 long)) l 0 most)).1)) (σ.set o (rsrc (runS ([] : List ByteArray) l e0 (manyS (fun l e => runS (⟨#[]⟩ : ByteArray) l e (wordS l 0 long)) l 0 most)).2.1 (runS ([] : List ByteArray) l e0 (manyS (fun l e => runS (⟨#[]⟩ : ByteArray) l e (wordS l 0 long)) l 0 most)).2.2))) :
    EC Try.prog 53 [.ref o 0, .lit (.int .i64 most), .lit (.int .i64 long)] σ k := by
  refine ec_fin fun hbd => ?_
  have ho' := ho
  unfold rsrc at ho'
  have hf : ∀ {p}, rsrcAt σ o p = p σ l e0 := rsrcAt_src ho
  by_cases h0 : e0 = 0
  rotate_left
  · unfold runS at hk
    rw [if_pos h0, set_same ho] at hk
    have hz : (e0 != 0) = true := by simpa using h0
    refine ec_of RET_ok mixed (fun _ => [0, 1, 2, 6, 7, 8, 9, 10, 19, 36, 49]) Try.func53 rfl (by kernel_rfl) (Nat.le_of_ble_eq_true rfl) ?_
    simp only [initF_cons, initF_nil, Nat.reduceAdd]
    refine t_name fun KF => ?_
    unfold RET
    repeat' (first
      | with_reducible refine t_seq fun K => ?_
      | with_reducible refine t_block ?_
      | with_reducible refine t_scope ?_
      | with_reducible refine t_label ?_
      | with_reducible refine t_skip ?_
      | with_reducible refine t_exit ?_
      | with_reducible refine t_ret ?_
      | with_reducible refine t_k ?_
      | (with_reducible refine t_gF ?_)
      | ((first | with_reducible refine t_kE ?_ | with_reducible refine t_kD ?_ | with_reducible refine t_gS ?_ | with_reducible refine t_kL ?_ | (with_reducible refine t_kLE ?_ ?_; rotate_left) | with_reducible refine t_region fun K => ?_ | with_reducible refine t_draw (by kernel_rfl) fun K => ?_); simp only [go_sem, Int.cast_ofNat_Int, Nat.reduceEqDiff, reduceIte, Nat.reduceAdd, Nat.reduceMul, Nat.reduceLeDiff, Nat.reduceSub, Nat.reduceLT, Nat.zero_lt_succ, Int.reduceToNat, Int.reduceAdd, Int.reduceSub, Int.reduceMul, Int.reduceNeg, Int.reduceLT, Int.reduceLE, Int.reduceEq, Int.reduceBEq, Int.reduceBNe, Nat.reduceBEq, List.reduceReplicate, ho', get_set ho, hz])
      | (with_reducible exact kp_nil)
      | (with_reducible exact Kp.refl _)
      | (with_reducible exact kp_to)
      | (with_reducible refine kp_cons ?_)
      | (with_reducible refine kp_arr ?_)
      | (with_reducible refine kp_app ?_)
      | ((with_reducible refine t_cond fun A B => ?_); simp only [go_sem, Int.cast_ofNat_Int, Nat.reduceEqDiff, reduceIte, Nat.reduceAdd, Nat.reduceMul, Nat.reduceLeDiff, Nat.reduceSub, Nat.reduceLT, Nat.zero_lt_succ, Int.reduceToNat, Int.reduceAdd, Int.reduceSub, Int.reduceMul, Int.reduceNeg, Int.reduceLT, Int.reduceLE, Int.reduceEq, Int.reduceBEq, Int.reduceBNe, Nat.reduceBEq, List.reduceReplicate, ho', get_set ho, hz]; first | (with_reducible refine A.h ?_) | (with_reducible refine B.h ?_) | refine And.intro (fun hc => A.h ?_) (fun hc => B.h ?_))
      | simp only [thenQ_n, thenQ_r, thenQ_e, blockQ_n, blockQ_r, blockQ_e, scopeQ_n, scopeQ_r, scopeQ_e, Nat.reduceEqDiff, reduceIte]
      | (with_reducible refine And.intro ?_ ?_)
      | with_reducible intro vr)
    refine end_ret rfl ?_
    simp only [finE, go_sem, Int.cast_ofNat_Int, Nat.reduceEqDiff, reduceIte, Nat.reduceAdd, Nat.reduceMul, Nat.reduceLeDiff, Nat.reduceSub, Nat.reduceLT, Nat.zero_lt_succ, Int.reduceToNat, Int.reduceAdd, Int.reduceSub, Int.reduceMul, Int.reduceNeg, Int.reduceLT, Int.reduceLE, Int.reduceEq, Int.reduceBEq, Int.reduceBNe, Nat.reduceBEq, List.reduceReplicate]
    exact ⟨_, _, rfl, LeA.nil false 1, by simpa using hbd, by simpa [strs, ints] using hk⟩
  subst h0
  obtain ⟨h1, h2, h3⟩ := numS_ok (lo := 0) (hi := most) (e := 3) hl (by decide)
  have hR : Rd (fun l e => runS (⟨#[]⟩ : ByteArray) l e (wordS l 0 long)) := rd_rword
  unfold manyS at hk
  generalize hN : numS l 0 0 most 3 = a at hk h1 h2 h3
  obtain ⟨n, r0, e0⟩ := a
  simp only at hk h1 h2 h3
  have hlen := okL_len h1
  have hsr : ∀ {r e m p}, rsrcAt (σ.set o (.box 43 [.sl false 1 (ints .u8 r), .lit (.int .i64 e)]) ++ m) o p = p (σ.set o (rsrc r e) ++ m) r e := rsrcAt_src (lk_o ho _ _)
  have hn9 : inI64 n := by
    by_cases he : e0 = 0
    · exact (h2 he).2.2.2
    · rw [(h3 he).1]; exact ⟨by decide, by decide⟩
  unfold inI64 at hn9
  refine ec_of RET_ok mixed (fun _ => [0, 1, 2, 6, 7, 8, 9, 10, 19, 36, 49]) Try.func53 rfl (by kernel_rfl) (Nat.le_of_ble_eq_true rfl) ?_
  simp only [initF_cons, initF_nil, Nat.reduceAdd]
  refine t_name fun KF => ?_
  unfold RET
  repeat' (first
    | with_reducible refine t_seq fun K => ?_
    | with_reducible refine t_block ?_
    | with_reducible refine t_scope ?_
    | with_reducible refine t_label ?_
    | with_reducible refine t_skip ?_
    | with_reducible refine t_exit ?_
    | with_reducible refine t_ret ?_
    | with_reducible refine t_k ?_
    | (with_reducible refine t_gF ?_)
    | ((first | with_reducible refine t_kE ?_ | with_reducible refine t_kD ?_ | with_reducible refine t_gS ?_ | with_reducible refine t_kL ?_ | (with_reducible refine t_kLE ?_ ?_; rotate_left) | with_reducible refine t_region fun K => ?_ | with_reducible refine t_draw (by kernel_rfl) fun K => ?_); simp only [go_sem, Int.cast_ofNat_Int, Nat.reduceEqDiff, reduceIte, Nat.reduceAdd, Nat.reduceMul, Nat.reduceLeDiff, Nat.reduceSub, Nat.reduceLT, Nat.zero_lt_succ, Int.reduceToNat, Int.reduceAdd, Int.reduceSub, Int.reduceMul, Int.reduceNeg, Int.reduceLT, Int.reduceLE, Int.reduceEq, Int.reduceBEq, Int.reduceBNe, Nat.reduceBEq, List.reduceReplicate, ho', rawCon_f, rawCon_c, hf, hl, hN, rsrc, get_set ho])
    | (with_reducible exact kp_nil)
    | (with_reducible exact Kp.refl _)
    | (with_reducible exact kp_to)
    | (with_reducible refine kp_cons ?_)
    | (with_reducible refine kp_arr ?_)
    | (with_reducible refine kp_app ?_)
    | ((with_reducible refine t_cond fun A B => ?_); simp only [go_sem, Int.cast_ofNat_Int, Nat.reduceEqDiff, reduceIte, Nat.reduceAdd, Nat.reduceMul, Nat.reduceLeDiff, Nat.reduceSub, Nat.reduceLT, Nat.zero_lt_succ, Int.reduceToNat, Int.reduceAdd, Int.reduceSub, Int.reduceMul, Int.reduceNeg, Int.reduceLT, Int.reduceLE, Int.reduceEq, Int.reduceBEq, Int.reduceBNe, Nat.reduceBEq, List.reduceReplicate, ho', rawCon_f, rawCon_c, hf, hl, hN, rsrc, get_set ho]; first | (with_reducible refine A.h ?_) | (with_reducible refine B.h ?_) | refine And.intro (fun hc => A.h ?_) (fun hc => B.h ?_))
    | simp only [thenQ_n, thenQ_r, thenQ_e, blockQ_n, blockQ_r, blockQ_e, scopeQ_n, scopeQ_r, scopeQ_e, Nat.reduceEqDiff, reduceIte]
    | (with_reducible refine And.intro ?_ ?_)
    | with_reducible intro vr)
  refine t_loop (ι := Lp (fun l e => runS (⟨#[]⟩ : ByteArray) l e (wordS l 0 long)) n.toNat (iterS (fun l e => runS (⟨#[]⟩ : ByteArray) l e (wordS l 0 long)) n.toNat ([], r0, e0))) (fun p => ⟨upd (upd (upd (upd (upd (upd topF 10 (.lit (.int .i64 p.i))) 9 (.arr σ.length p.ver)) 8 (.lit (.int .i64 n))) 7 (.sl false 1 (ints .u8 l))) 2 (.lit (.int .i64 long))) 0 (.ref o 0),
    σ.set o (rsrc p.r p.e) ++ [.arr 9 1 (strs p.out) p.ver false]⟩) (fun p => n.toNat - p.i) ⟨0, [], r0, e0, 0, rfl, h1, rfl, by simp only [List.length_nil]; omega, fun _ => by simp only [List.length_nil]; omega⟩ ?_ ?_
  · refine (le_nil 9 9 1 rfl).trans ?_
    (refine Le.frame ?_; repeat' (first | exact leF_top _ | (with_reducible refine leF_sl ?_ ?_) | (refine leF_upd (LeR.of_eq ?_) ?_))) <;> (try (simp only [go_sem, Int.cast_ofNat_Int, Nat.reduceEqDiff, reduceIte, Nat.reduceAdd, Nat.reduceMul, Nat.reduceLeDiff, Nat.reduceSub, Nat.reduceLT, Nat.zero_lt_succ, Int.reduceToNat, Int.reduceAdd, Int.reduceSub, Int.reduceMul, Int.reduceNeg, Int.reduceLT, Int.reduceLE, Int.reduceEq, Int.reduceBEq, Int.reduceBNe, Nat.reduceBEq, List.reduceReplicate]; try rfl))
  · rintro ⟨i, out, r, e, ver, hF, hr, hil, hb, hb0⟩ K0
    have hend : decide ((i : Int) < n) = false ∨ e ≠ 0 → iterS (fun l e => runS (⟨#[]⟩ : ByteArray) l e (wordS l 0 long)) n.toNat ([], r0, e0) = (out, r, e) := by
      rintro (h | h)
      · rw [← hF, show n.toNat - i = 0 by rw [decide_eq_false_iff_not] at h; omega]; rfl
      · rw [← hF]; exact iterS_done h
    rcases Int.lt_or_le (i : Int) n with hc | hc
    · have g1 : decide ((i : Int) < n) = true := decide_eq_true hc
      by_cases he : e = 0
      · subst he
        have hd := hR r hr
        rw [show n.toNat - i = (n.toNat - (i + 1)) + 1 by omega, iterS_step] at hF
        simp only at hF hd
        generalize hO : runS (⟨#[]⟩ : ByteArray) r 0 (wordS r 0 long) = z at hF hd
        obtain ⟨x, r', e'⟩ := z
        simp only at hF hd
        have hb0 := hb0 rfl
        repeat' (first
          | with_reducible refine t_seq fun K => ?_
          | with_reducible refine t_block ?_
          | with_reducible refine t_scope ?_
          | with_reducible refine t_label ?_
          | with_reducible refine t_skip ?_
          | with_reducible refine t_exit ?_
          | with_reducible refine t_ret ?_
          | with_reducible refine t_k ?_
          | (with_reducible refine t_gF ?_)
          | ((first | with_reducible refine t_kE ?_ | with_reducible refine t_kD ?_ | with_reducible refine t_gS ?_ | with_reducible refine t_kL ?_ | (with_reducible refine t_kLE ?_ ?_; rotate_left) | with_reducible refine t_region fun K => ?_ | with_reducible refine t_draw (by kernel_rfl) fun K => ?_); simp only [go_sem, Int.cast_ofNat_Int, Nat.reduceEqDiff, reduceIte, Nat.reduceAdd, Nat.reduceMul, Nat.reduceLeDiff, Nat.reduceSub, Nat.reduceLT, Nat.zero_lt_succ, Int.reduceToNat, Int.reduceAdd, Int.reduceSub, Int.reduceMul, Int.reduceNeg, Int.reduceLT, Int.reduceLE, Int.reduceEq, Int.reduceBEq, Int.reduceBNe, Nat.reduceBEq, List.reduceReplicate, g1, lk_o ho, lk_e, st_e, st_o ho, hsr, rsrc, rawCon_f, rawCon_c, rtxtCon_f, rtxtCon_c, hr, hO])
          | (with_reducible exact kp_nil)
          | (with_reducible exact Kp.refl _)
          | (with_reducible exact kp_to)
          | (with_reducible refine kp_cons ?_)
          | (with_reducible refine kp_arr ?_)
          | (with_reducible refine kp_app ?_)
          | ((with_reducible refine t_cond fun A B => ?_); simp only [go_sem, Int.cast_ofNat_Int, Nat.reduceEqDiff, reduceIte, Nat.reduceAdd, Nat.reduceMul, Nat.reduceLeDiff, Nat.reduceSub, Nat.reduceLT, Nat.zero_lt_succ, Int.reduceToNat, Int.reduceAdd, Int.reduceSub, Int.reduceMul, Int.reduceNeg, Int.reduceLT, Int.reduceLE, Int.reduceEq, Int.reduceBEq, Int.reduceBNe, Nat.reduceBEq, List.reduceReplicate, g1, lk_o ho, lk_e, st_e, st_o ho, hsr, rsrc, rawCon_f, rawCon_c, rtxtCon_f, rtxtCon_c, hr, hO]; first | (with_reducible refine A.h ?_) | (with_reducible refine B.h ?_) | refine And.intro (fun hc => A.h ?_) (fun hc => B.h ?_))
          | simp only [thenQ_n, thenQ_r, thenQ_e, blockQ_n, blockQ_r, blockQ_e, scopeQ_n, scopeQ_r, scopeQ_e, Nat.reduceEqDiff, reduceIte]
          | (with_reducible refine And.intro ?_ ?_)
          | with_reducible intro vr)
        all_goals try (intros; (try simp only [Bool.and_eq_true, Bool.or_eq_true, Bool.not_eq_true', decide_eq_true_eq, decide_eq_false_iff_not, beq_iff_eq, bne_iff_ne, ne_eq, inI64, List.length_append] at *) <;> omega)
        refine ⟨⟨i + 1, out ++ [x], r', e', ver + 1, hF, hd.1, by simp only [List.length_append, List.length_singleton]; omega, by simp only [List.length_append, List.length_singleton]; omega, fun h => by have := hd.2.2 h; simp only [List.length_append, List.length_singleton]; omega⟩, by simp only; omega, ?_⟩
        (refine Le.frame ?_; repeat' (first | exact leF_top _ | (with_reducible refine leF_sl ?_ ?_) | (refine leF_upd (LeR.of_eq ?_) ?_))) <;> (try (simp only [go_sem, Int.cast_ofNat_Int, Nat.reduceEqDiff, reduceIte, Nat.reduceAdd, Nat.reduceMul, Nat.reduceLeDiff, Nat.reduceSub, Nat.reduceLT, Nat.zero_lt_succ, Int.reduceToNat, Int.reduceAdd, Int.reduceSub, Int.reduceMul, Int.reduceNeg, Int.reduceLT, Int.reduceLE, Int.reduceEq, Int.reduceBEq, Int.reduceBNe, Nat.reduceBEq, List.reduceReplicate]; try rfl))
      · have hz : (e == 0) = false := by simpa using he
        have hz' : (e != 0) = true := by simpa using he
        rw [hend (.inr he)] at hk
        unfold runS at hk
        rw [if_neg (by simp), if_pos (by exact he)] at hk
        repeat' (first
          | with_reducible refine t_seq fun K => ?_
          | with_reducible refine t_block ?_
          | with_reducible refine t_scope ?_
          | with_reducible refine t_label ?_
          | with_reducible refine t_skip ?_
          | with_reducible refine t_exit ?_
          | with_reducible refine t_ret ?_
          | with_reducible refine t_k ?_
          | (with_reducible refine t_gF ?_)
          | ((first | with_reducible refine t_kE ?_ | with_reducible refine t_kD ?_ | with_reducible refine t_gS ?_ | with_reducible refine t_kL ?_ | (with_reducible refine t_kLE ?_ ?_; rotate_left) | with_reducible refine t_region fun K => ?_ | with_reducible refine t_draw (by kernel_rfl) fun K => ?_); simp only [go_sem, Int.cast_ofNat_Int, Nat.reduceEqDiff, reduceIte, Nat.reduceAdd, Nat.reduceMul, Nat.reduceLeDiff, Nat.reduceSub, Nat.reduceLT, Nat.zero_lt_succ, Int.reduceToNat, Int.reduceAdd, Int.reduceSub, Int.reduceMul, Int.reduceNeg, Int.reduceLT, Int.reduceLE, Int.reduceEq, Int.reduceBEq, Int.reduceBNe, Nat.reduceBEq, List.reduceReplicate, g1, lk_o ho, hz, hz', rsrc, st_o ho])
          | (with_reducible exact kp_nil)
          | (with_reducible exact Kp.refl _)
          | (with_reducible exact kp_to)
          | (with_reducible refine kp_cons ?_)
          | (with_reducible refine kp_arr ?_)
          | (with_reducible refine kp_app ?_)
          | ((with_reducible refine t_cond fun A B => ?_); simp only [go_sem, Int.cast_ofNat_Int, Nat.reduceEqDiff, reduceIte, Nat.reduceAdd, Nat.reduceMul, Nat.reduceLeDiff, Nat.reduceSub, Nat.reduceLT, Nat.zero_lt_succ, Int.reduceToNat, Int.reduceAdd, Int.reduceSub, Int.reduceMul, Int.reduceNeg, Int.reduceLT, Int.reduceLE, Int.reduceEq, Int.reduceBEq, Int.reduceBNe, Nat.reduceBEq, List.reduceReplicate, g1, lk_o ho, hz, hz', rsrc, st_o ho]; first | (with_reducible refine A.h ?_) | (with_reducible refine B.h ?_) | refine And.intro (fun hc => A.h ?_) (fun hc => B.h ?_))
          | simp only [thenQ_n, thenQ_r, thenQ_e, blockQ_n, blockQ_r, blockQ_e, scopeQ_n, scopeQ_r, scopeQ_e, Nat.reduceEqDiff, reduceIte]
          | (with_reducible refine And.intro ?_ ?_)
          | with_reducible intro vr)
        refine end_ret rfl ?_
        simp only [finE, go_sem, Int.cast_ofNat_Int, Nat.reduceEqDiff, reduceIte, Nat.reduceAdd, Nat.reduceMul, Nat.reduceLeDiff, Nat.reduceSub, Nat.reduceLT, Nat.zero_lt_succ, Int.reduceToNat, Int.reduceAdd, Int.reduceSub, Int.reduceMul, Int.reduceNeg, Int.reduceLT, Int.reduceLE, Int.reduceEq, Int.reduceBEq, Int.reduceBNe, Nat.reduceBEq, List.reduceReplicate, lk_e, st_e, tk_e]
        exact ⟨_, _, rfl, LeA.nil false 1, bds_rsrc hbd o _ _, hk⟩
    · have g1 : decide ((i : Int) < n) = false := decide_eq_false (by omega)
      rw [hend (.inl g1)] at hk
      unfold runS at hk
      rw [if_neg (by simp)] at hk
      by_cases he : e = 0
      · subst he
        rw [if_neg (by simp)] at hk
        repeat' (first
          | with_reducible refine t_seq fun K => ?_
          | with_reducible refine t_block ?_
          | with_reducible refine t_scope ?_
          | with_reducible refine t_label ?_
          | with_reducible refine t_skip ?_
          | with_reducible refine t_exit ?_
          | with_reducible refine t_ret ?_
          | with_reducible refine t_k ?_
          | (with_reducible refine t_gF ?_)
          | ((first | with_reducible refine t_kE ?_ | with_reducible refine t_kD ?_ | with_reducible refine t_gS ?_ | with_reducible refine t_kL ?_ | (with_reducible refine t_kLE ?_ ?_; rotate_left) | with_reducible refine t_region fun K => ?_ | with_reducible refine t_draw (by kernel_rfl) fun K => ?_); simp only [go_sem, Int.cast_ofNat_Int, Nat.reduceEqDiff, reduceIte, Nat.reduceAdd, Nat.reduceMul, Nat.reduceLeDiff, Nat.reduceSub, Nat.reduceLT, Nat.zero_lt_succ, Int.reduceToNat, Int.reduceAdd, Int.reduceSub, Int.reduceMul, Int.reduceNeg, Int.reduceLT, Int.reduceLE, Int.reduceEq, Int.reduceBEq, Int.reduceBNe, Nat.reduceBEq, List.reduceReplicate, g1, lk_o ho, rsrc])
          | (with_reducible exact kp_nil)
          | (with_reducible exact Kp.refl _)
          | (with_reducible exact kp_to)
          | (with_reducible refine kp_cons ?_)
          | (with_reducible refine kp_arr ?_)
          | (with_reducible refine kp_app ?_)
          | ((with_reducible refine t_cond fun A B => ?_); simp only [go_sem, Int.cast_ofNat_Int, Nat.reduceEqDiff, reduceIte, Nat.reduceAdd, Nat.reduceMul, Nat.reduceLeDiff, Nat.reduceSub, Nat.reduceLT, Nat.zero_lt_succ, Int.reduceToNat, Int.reduceAdd, Int.reduceSub, Int.reduceMul, Int.reduceNeg, Int.reduceLT, Int.reduceLE, Int.reduceEq, Int.reduceBEq, Int.reduceBNe, Nat.reduceBEq, List.reduceReplicate, g1, lk_o ho, rsrc]; first | (with_reducible refine A.h ?_) | (with_reducible refine B.h ?_) | refine And.intro (fun hc => A.h ?_) (fun hc => B.h ?_))
          | simp only [thenQ_n, thenQ_r, thenQ_e, blockQ_n, blockQ_r, blockQ_e, scopeQ_n, scopeQ_r, scopeQ_e, Nat.reduceEqDiff, reduceIte]
          | (with_reducible refine And.intro ?_ ?_)
          | with_reducible intro vr)
        refine end_ret rfl ?_
        simp only [finE, go_sem, Int.cast_ofNat_Int, Nat.reduceEqDiff, reduceIte, Nat.reduceAdd, Nat.reduceMul, Nat.reduceLeDiff, Nat.reduceSub, Nat.reduceLT, Nat.zero_lt_succ, Int.reduceToNat, Int.reduceAdd, Int.reduceSub, Int.reduceMul, Int.reduceNeg, Int.reduceLT, Int.reduceLE, Int.reduceEq, Int.reduceBEq, Int.reduceBNe, Nat.reduceBEq, List.reduceReplicate, lk_e, st_e, tk_e]
        exact ⟨_, _, rfl, LeA.refl _, bds_rsrc hbd o _ _, hk⟩
      · have hz' : (e != 0) = true := by simpa using he
        rw [if_pos (by exact he)] at hk
        repeat' (first
          | with_reducible refine t_seq fun K => ?_
          | with_reducible refine t_block ?_
          | with_reducible refine t_scope ?_
          | with_reducible refine t_label ?_
          | with_reducible refine t_skip ?_
          | with_reducible refine t_exit ?_
          | with_reducible refine t_ret ?_
          | with_reducible refine t_k ?_
          | (with_reducible refine t_gF ?_)
          | ((first | with_reducible refine t_kE ?_ | with_reducible refine t_kD ?_ | with_reducible refine t_gS ?_ | with_reducible refine t_kL ?_ | (with_reducible refine t_kLE ?_ ?_; rotate_left) | with_reducible refine t_region fun K => ?_ | with_reducible refine t_draw (by kernel_rfl) fun K => ?_); simp only [go_sem, Int.cast_ofNat_Int, Nat.reduceEqDiff, reduceIte, Nat.reduceAdd, Nat.reduceMul, Nat.reduceLeDiff, Nat.reduceSub, Nat.reduceLT, Nat.zero_lt_succ, Int.reduceToNat, Int.reduceAdd, Int.reduceSub, Int.reduceMul, Int.reduceNeg, Int.reduceLT, Int.reduceLE, Int.reduceEq, Int.reduceBEq, Int.reduceBNe, Nat.reduceBEq, List.reduceReplicate, g1, lk_o ho, hz', rsrc, st_o ho])
          | (with_reducible exact kp_nil)
          | (with_reducible exact Kp.refl _)
          | (with_reducible exact kp_to)
          | (with_reducible refine kp_cons ?_)
          | (with_reducible refine kp_arr ?_)
          | (with_reducible refine kp_app ?_)
          | ((with_reducible refine t_cond fun A B => ?_); simp only [go_sem, Int.cast_ofNat_Int, Nat.reduceEqDiff, reduceIte, Nat.reduceAdd, Nat.reduceMul, Nat.reduceLeDiff, Nat.reduceSub, Nat.reduceLT, Nat.zero_lt_succ, Int.reduceToNat, Int.reduceAdd, Int.reduceSub, Int.reduceMul, Int.reduceNeg, Int.reduceLT, Int.reduceLE, Int.reduceEq, Int.reduceBEq, Int.reduceBNe, Nat.reduceBEq, List.reduceReplicate, g1, lk_o ho, hz', rsrc, st_o ho]; first | (with_reducible refine A.h ?_) | (with_reducible refine B.h ?_) | refine And.intro (fun hc => A.h ?_) (fun hc => B.h ?_))
          | simp only [thenQ_n, thenQ_r, thenQ_e, blockQ_n, blockQ_r, blockQ_e, scopeQ_n, scopeQ_r, scopeQ_e, Nat.reduceEqDiff, reduceIte]
          | (with_reducible refine And.intro ?_ ?_)
          | with_reducible intro vr)
        refine end_ret rfl ?_
        simp only [finE, go_sem, Int.cast_ofNat_Int, Nat.reduceEqDiff, reduceIte, Nat.reduceAdd, Nat.reduceMul, Nat.reduceLeDiff, Nat.reduceSub, Nat.reduceLT, Nat.zero_lt_succ, Int.reduceToNat, Int.reduceAdd, Int.reduceSub, Int.reduceMul, Int.reduceNeg, Int.reduceLT, Int.reduceLE, Int.reduceEq, Int.reduceBEq, Int.reduceBNe, Nat.reduceBEq, List.reduceReplicate, lk_e, st_e, tk_e]
        exact ⟨_, _, rfl, LeA.nil false 1, bds_rsrc hbd o _ _, hk⟩
end Go.Proofs.Ytgkjocnfdllieaa
