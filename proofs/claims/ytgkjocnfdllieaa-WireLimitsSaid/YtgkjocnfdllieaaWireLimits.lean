/- WireLimits: the walk. -/
import Derived.Test.YtgkjocnfdllieaaWD
import Derived.Test.YtgkjocnfdllieaaWE

set_option linter.all false

namespace Go.Proofs.Ytgkjocnfdllieaa
open Go Go.Fw

noncomputable def E33 : Env := envOf (P := Try.prog) zer (fun _ => false) (fun d => d == 35) [awakeCon, con12, fewCon, con23] [methTCon]
theorem E33_ok : EnvOk Try.prog E33 := envOk zer_ok
set_option maxHeartbeats 4000000 in
theorem limits_pc {t : List ByteArray} {cut less : Int} (ht : t.length ≤ maxLen) (hc : inI64 cut) (hl : inI64 less) : PC Try.prog 6 [.sl false 1 (strs t), .lit (.int .i64 cut), .lit (.int .i64 less)] (.lit (.bool true)) := by
  unfold inI64 at hc hl
  by_cases h1 : few t 20 100 = false
  · skip
    refine pc_of E33_ok mixed (fun _ => [0, 1, 2, 6, 7, 8, 9, 10, 12, 20, 50]) Try.func6 rfl (by kernel_rfl) (Nat.le_of_ble_eq_true rfl) ?_
    simp only [initF_cons, initF_nil, Nat.reduceAdd]
    refine t_name fun KF => ?_
    unfold E33
    repeat' (first
      | with_reducible refine t_seq fun K => ?_
      | with_reducible refine t_block ?_
      | with_reducible refine t_scope ?_
      | with_reducible refine t_label ?_
      | with_reducible refine t_skip ?_
      | with_reducible refine t_exit ?_
      | with_reducible refine t_ret ?_
      | with_reducible refine t_k ?_
      | (with_reducible refine t_gF ?_)
      | ((first | with_reducible refine t_kE ?_ | with_reducible refine t_kD ?_ | with_reducible refine t_gS ?_ | with_reducible refine t_kL ?_ | (with_reducible refine t_kLE ?_ ?_; rotate_left) | with_reducible refine t_region fun K => ?_ | with_reducible refine t_draw (by kernel_rfl) fun K => ?_); simp only [go_sem, Int.cast_ofNat_Int, Nat.reduceEqDiff, reduceIte, Nat.reduceAdd, Nat.reduceMul, Nat.reduceLeDiff, Nat.reduceSub, Nat.reduceLT, Nat.zero_lt_succ, Int.reduceToNat, Int.reduceAdd, Int.reduceSub, Int.reduceMul, Int.reduceNeg, Int.reduceLT, Int.reduceLE, Int.reduceEq, Int.reduceBEq, Int.reduceBNe, Nat.reduceBEq, List.reduceReplicate, h1, ht, awakeCon_f, awakeCon_c, con12_f, fewCon_f, fewCon_c, slS_sl])
      | (with_reducible exact kp_nil)
      | (with_reducible exact Kp.refl _)
      | (with_reducible exact kp_to)
      | (with_reducible refine kp_cons ?_)
      | (with_reducible refine kp_arr ?_)
      | (with_reducible refine kp_app ?_)
      | ((with_reducible refine t_cond fun A B => ?_); simp only [go_sem, Int.cast_ofNat_Int, Nat.reduceEqDiff, reduceIte, Nat.reduceAdd, Nat.reduceMul, Nat.reduceLeDiff, Nat.reduceSub, Nat.reduceLT, Nat.zero_lt_succ, Int.reduceToNat, Int.reduceAdd, Int.reduceSub, Int.reduceMul, Int.reduceNeg, Int.reduceLT, Int.reduceLE, Int.reduceEq, Int.reduceBEq, Int.reduceBNe, Nat.reduceBEq, List.reduceReplicate, h1, ht, awakeCon_f, awakeCon_c, con12_f, fewCon_f, fewCon_c, slS_sl]; first | (with_reducible refine A.h ?_) | (with_reducible refine B.h ?_) | refine And.intro (fun hc => A.h ?_) (fun hc => B.h ?_))
      | simp only [thenQ_n, thenQ_r, thenQ_e, blockQ_n, blockQ_r, blockQ_e, scopeQ_n, scopeQ_r, scopeQ_e, Nat.reduceEqDiff, reduceIte]
      | (with_reducible refine And.intro ?_ ?_)
      | with_reducible intro vr)
    all_goals try (intros; (try simp only [Bool.and_eq_true, Bool.or_eq_true, Bool.not_eq_true', decide_eq_true_eq, decide_eq_false_iff_not, beq_iff_eq, bne_iff_ne, ne_eq, inI64, List.length_append] at *) <;> omega)
    refine end_ret rfl ?_
    simp only [fin, go_sem, Int.cast_ofNat_Int, Nat.reduceEqDiff, reduceIte, Nat.reduceAdd, Nat.reduceMul, Nat.reduceLeDiff, Nat.reduceSub, Nat.reduceLT, Nat.zero_lt_succ, Int.reduceToNat, Int.reduceAdd, Int.reduceSub, Int.reduceMul, Int.reduceNeg, Int.reduceLT, Int.reduceLE, Int.reduceEq, Int.reduceBEq, Int.reduceBNe, Nat.reduceBEq, List.reduceReplicate]
    exact LeA.refl _
  have e1 : few t 20 100 = true := by simpa using h1
  by_cases h2 : t = []
  · subst h2
    refine pc_of E33_ok mixed (fun _ => [0, 1, 2, 6, 7, 8, 9, 10, 12, 20, 50]) Try.func6 rfl (by kernel_rfl) (Nat.le_of_ble_eq_true rfl) ?_
    simp only [initF_cons, initF_nil, Nat.reduceAdd]
    refine t_name fun KF => ?_
    unfold E33
    repeat' (first
      | with_reducible refine t_seq fun K => ?_
      | with_reducible refine t_block ?_
      | with_reducible refine t_scope ?_
      | with_reducible refine t_label ?_
      | with_reducible refine t_skip ?_
      | with_reducible refine t_exit ?_
      | with_reducible refine t_ret ?_
      | with_reducible refine t_k ?_
      | (with_reducible refine t_gF ?_)
      | ((first | with_reducible refine t_kE ?_ | with_reducible refine t_kD ?_ | with_reducible refine t_gS ?_ | with_reducible refine t_kL ?_ | (with_reducible refine t_kLE ?_ ?_; rotate_left) | with_reducible refine t_region fun K => ?_ | with_reducible refine t_draw (by kernel_rfl) fun K => ?_); simp only [go_sem, Int.cast_ofNat_Int, Nat.reduceEqDiff, reduceIte, Nat.reduceAdd, Nat.reduceMul, Nat.reduceLeDiff, Nat.reduceSub, Nat.reduceLT, Nat.zero_lt_succ, Int.reduceToNat, Int.reduceAdd, Int.reduceSub, Int.reduceMul, Int.reduceNeg, Int.reduceLT, Int.reduceLE, Int.reduceEq, Int.reduceBEq, Int.reduceBNe, Nat.reduceBEq, List.reduceReplicate, e1, ht, awakeCon_f, awakeCon_c, con12_f, fewCon_f, fewCon_c, slS_sl])
      | (with_reducible exact kp_nil)
      | (with_reducible exact Kp.refl _)
      | (with_reducible exact kp_to)
      | (with_reducible refine kp_cons ?_)
      | (with_reducible refine kp_arr ?_)
      | (with_reducible refine kp_app ?_)
      | ((with_reducible refine t_cond fun A B => ?_); simp only [go_sem, Int.cast_ofNat_Int, Nat.reduceEqDiff, reduceIte, Nat.reduceAdd, Nat.reduceMul, Nat.reduceLeDiff, Nat.reduceSub, Nat.reduceLT, Nat.zero_lt_succ, Int.reduceToNat, Int.reduceAdd, Int.reduceSub, Int.reduceMul, Int.reduceNeg, Int.reduceLT, Int.reduceLE, Int.reduceEq, Int.reduceBEq, Int.reduceBNe, Nat.reduceBEq, List.reduceReplicate, e1, ht, awakeCon_f, awakeCon_c, con12_f, fewCon_f, fewCon_c, slS_sl]; first | (with_reducible refine A.h ?_) | (with_reducible refine B.h ?_) | refine And.intro (fun hc => A.h ?_) (fun hc => B.h ?_))
      | simp only [thenQ_n, thenQ_r, thenQ_e, blockQ_n, blockQ_r, blockQ_e, scopeQ_n, scopeQ_r, scopeQ_e, Nat.reduceEqDiff, reduceIte]
      | (with_reducible refine And.intro ?_ ?_)
      | with_reducible intro vr)
    all_goals try (intros; (try simp only [Bool.and_eq_true, Bool.or_eq_true, Bool.not_eq_true', decide_eq_true_eq, decide_eq_false_iff_not, beq_iff_eq, bne_iff_ne, ne_eq, inI64, List.length_append] at *) <;> omega)
    refine end_ret rfl ?_
    simp only [fin, go_sem, Int.cast_ofNat_Int, Nat.reduceEqDiff, reduceIte, Nat.reduceAdd, Nat.reduceMul, Nat.reduceLeDiff, Nat.reduceSub, Nat.reduceLT, Nat.zero_lt_succ, Int.reduceToNat, Int.reduceAdd, Int.reduceSub, Int.reduceMul, Int.reduceNeg, Int.reduceLT, Int.reduceLE, Int.reduceEq, Int.reduceBEq, Int.reduceBNe, Nat.reduceBEq, List.reduceReplicate]
    exact LeA.refl _
  obtain ⟨t1, t2⟩ := few_true e1
  have t3 : ∀ s ∈ t, s.size ≤ 1000 := fun s hs => by have := t2 s hs; omega
  have tp : 1 ≤ t.length := by cases t with
    | nil => exact absurd rfl h2
    | cons _ _ => simp
  have e2 : ((t.length : Int) == 0) = false := by rw [beq_eq_false_iff_ne]; omega
  have he := enc_len (t.length : Int)
  have hS := encS_len t t3
  have hin : inI64 (t.length : Int) := ⟨by omega, by omega⟩
  have hbyt : byt (enc (t.length : Int) ++ encS t) := by
    intro x hx
    rcases List.mem_append.1 hx with hx | hx
    · exact enc_byt _ x hx
    · simp only [encS, List.mem_flatMap] at hx
      obtain ⟨s, _, hx⟩ := hx
      rcases List.mem_append.1 hx with hx | hx
      · exact enc_byt _ x hx
      · exact bytesI_byt _ x hx
  have hok : okL (enc (t.length : Int) ++ encS t) := ⟨by simp only [List.length_append]; omega, hbyt⟩
  have hfull := many_texts (long := 100) (most := 20) t1 (by omega) (fun s hs => ⟨t2 s hs, by have := t3 s hs; omega⟩) []
  rw [List.append_nil] at hfull
  have hout : ∀ most : Int, most < t.length → runS [] (enc (t.length : Int) ++ encS t) 0 (manyS (fun l e => wordS l e 100) (enc (t.length : Int) ++ encS t) 0 most) = ([], enc (t.length : Int) ++ encS t, 3) := by
    intro most hm
    unfold manyS
    rw [num_enc_out hin (.inr hm)]
    simp [runS, iterS]
  have hBlen : 1 ≤ (enc (t.length : Int) ++ encS t).length := by simp only [List.length_append]; omega
  generalize hB : enc (t.length : Int) ++ encS t = B at hok hfull hout hBlen
  obtain ⟨j, hj, hj1⟩ : ∃ j : Nat, maxI 0 (minI cut ((B.length : Int) - 1)) = (j : Int) ∧ j < B.length :=
    ⟨(maxI 0 (minI cut ((B.length : Int) - 1))).toNat, by unfold maxI minI; (repeat' split) <;> omega, by unfold maxI minI; (repeat' split) <;> omega⟩
  have hBl := okL_len hok
  have hcutR : runS [] (B.take j) 0 (manyS (fun l e => wordS l e 100) (B.take j) 0 20) = ([], B.take j, 4) := by
    have e := List.take_append_drop j B
    rcases px_many (one := fun l e => wordS l e 100) px_word rd_word (most := 20) (B.take j) (B.drop j) t [] (by rw [e]; exact hok) (by rw [e]; exact hfull) with ⟨r', _, h2⟩ | h2
    · have := congrArg List.length h2
      simp only [List.length_append, List.length_drop, List.length_nil] at this
      omega
    · unfold runS
      rw [if_neg (by decide), if_pos (by rw [h2]; decide), h2]
  have hokp : okL (B.take j) := ⟨by rw [List.length_take]; omega, fun x hx => hok.2 x (List.mem_of_mem_take hx)⟩
  have g00 : decide ((0 : Int) > 0) = false := rfl
  by_cases h3 : less > 0
  · have e3 : decide (less > 0) = true := decide_eq_true h3
    have e4 := hout (maxI ((t.length : Int) - less) (-1)) (by unfold maxI; split <;> omega)
    refine pc_of E33_ok mixed (fun _ => [0, 1, 2, 6, 7, 8, 9, 10, 12, 20, 50]) Try.func6 rfl (by kernel_rfl) (Nat.le_of_ble_eq_true rfl) ?_
    simp only [initF_cons, initF_nil, Nat.reduceAdd]
    refine t_name fun KF => ?_
    unfold E33
    repeat' (first
      | with_reducible refine t_seq fun K => ?_
      | with_reducible refine t_block ?_
      | with_reducible refine t_scope ?_
      | with_reducible refine t_label ?_
      | with_reducible refine t_skip ?_
      | with_reducible refine t_exit ?_
      | with_reducible refine t_ret ?_
      | with_reducible refine t_k ?_
      | (with_reducible refine t_gF ?_)
      | ((first | with_reducible refine t_kE ?_ | with_reducible refine t_kD ?_ | with_reducible refine t_gS ?_ | with_reducible refine t_kL ?_ | (with_reducible refine t_kLE ?_ ?_; rotate_left) | with_reducible refine t_region fun K => ?_ | with_reducible refine t_draw (by kernel_rfl) fun K => ?_); simp only [go_sem, Int.cast_ofNat_Int, Nat.reduceEqDiff, reduceIte, Nat.reduceAdd, Nat.reduceMul, Nat.reduceLeDiff, Nat.reduceSub, Nat.reduceLT, Nat.zero_lt_succ, Int.reduceToNat, Int.reduceAdd, Int.reduceSub, Int.reduceMul, Int.reduceNeg, Int.reduceLT, Int.reduceLE, Int.reduceEq, Int.reduceBEq, Int.reduceBNe, Nat.reduceBEq, List.reduceReplicate, e1, e2, e3, ht, awakeCon_f, awakeCon_c, con12_f, con12_c, fewCon_f, fewCon_c, con23_f, con23_c, slS_sl, slK_nil, slK_sl, hB, methTCon_f, methTCon_c, srcAt, src, e4, hok, eqS_refl, g00, hj, Int.toNat_natCast, hcutR, hokp])
      | (with_reducible exact kp_nil)
      | (with_reducible exact Kp.refl _)
      | (with_reducible exact kp_to)
      | (with_reducible refine kp_cons ?_)
      | (with_reducible refine kp_arr ?_)
      | (with_reducible refine kp_app ?_)
      | ((with_reducible refine t_cond fun A B => ?_); simp only [go_sem, Int.cast_ofNat_Int, Nat.reduceEqDiff, reduceIte, Nat.reduceAdd, Nat.reduceMul, Nat.reduceLeDiff, Nat.reduceSub, Nat.reduceLT, Nat.zero_lt_succ, Int.reduceToNat, Int.reduceAdd, Int.reduceSub, Int.reduceMul, Int.reduceNeg, Int.reduceLT, Int.reduceLE, Int.reduceEq, Int.reduceBEq, Int.reduceBNe, Nat.reduceBEq, List.reduceReplicate, e1, e2, e3, ht, awakeCon_f, awakeCon_c, con12_f, con12_c, fewCon_f, fewCon_c, con23_f, con23_c, slS_sl, slK_nil, slK_sl, hB, methTCon_f, methTCon_c, srcAt, src, e4, hok, eqS_refl, g00, hj, Int.toNat_natCast, hcutR, hokp]; first | (with_reducible refine A.h ?_) | (with_reducible refine B.h ?_) | refine And.intro (fun hc => A.h ?_) (fun hc => B.h ?_))
      | simp only [thenQ_n, thenQ_r, thenQ_e, blockQ_n, blockQ_r, blockQ_e, scopeQ_n, scopeQ_r, scopeQ_e, Nat.reduceEqDiff, reduceIte]
      | (with_reducible refine And.intro ?_ ?_)
      | with_reducible intro vr)
    all_goals try (intros; (try simp only [Bool.and_eq_true, Bool.or_eq_true, Bool.not_eq_true', decide_eq_true_eq, decide_eq_false_iff_not, beq_iff_eq, bne_iff_ne, ne_eq, inI64, List.length_append, List.length_take] at *) <;> omega)
    · exact t3 _ (by assumption)
    refine end_ret rfl ?_
    simp only [fin, go_sem, Int.cast_ofNat_Int, Nat.reduceEqDiff, reduceIte, Nat.reduceAdd, Nat.reduceMul, Nat.reduceLeDiff, Nat.reduceSub, Nat.reduceLT, Nat.zero_lt_succ, Int.reduceToNat, Int.reduceAdd, Int.reduceSub, Int.reduceMul, Int.reduceNeg, Int.reduceLT, Int.reduceLE, Int.reduceEq, Int.reduceBEq, Int.reduceBNe, Nat.reduceBEq, List.reduceReplicate, eqS_refl, beq_self_eq_true]
    exact LeA.refl _
  · have e3 : decide (less > 0) = false := decide_eq_false h3
    refine pc_of E33_ok mixed (fun _ => [0, 1, 2, 6, 7, 8, 9, 10, 12, 20, 50]) Try.func6 rfl (by kernel_rfl) (Nat.le_of_ble_eq_true rfl) ?_
    simp only [initF_cons, initF_nil, Nat.reduceAdd]
    refine t_name fun KF => ?_
    unfold E33
    repeat' (first
      | with_reducible refine t_seq fun K => ?_
      | with_reducible refine t_block ?_
      | with_reducible refine t_scope ?_
      | with_reducible refine t_label ?_
      | with_reducible refine t_skip ?_
      | with_reducible refine t_exit ?_
      | with_reducible refine t_ret ?_
      | with_reducible refine t_k ?_
      | (with_reducible refine t_gF ?_)
      | ((first | with_reducible refine t_kE ?_ | with_reducible refine t_kD ?_ | with_reducible refine t_gS ?_ | with_reducible refine t_kL ?_ | (with_reducible refine t_kLE ?_ ?_; rotate_left) | with_reducible refine t_region fun K => ?_ | with_reducible refine t_draw (by kernel_rfl) fun K => ?_); simp only [go_sem, Int.cast_ofNat_Int, Nat.reduceEqDiff, reduceIte, Nat.reduceAdd, Nat.reduceMul, Nat.reduceLeDiff, Nat.reduceSub, Nat.reduceLT, Nat.zero_lt_succ, Int.reduceToNat, Int.reduceAdd, Int.reduceSub, Int.reduceMul, Int.reduceNeg, Int.reduceLT, Int.reduceLE, Int.reduceEq, Int.reduceBEq, Int.reduceBNe, Nat.reduceBEq, List.reduceReplicate, e1, e2, e3, ht, awakeCon_f, awakeCon_c, con12_f, con12_c, fewCon_f, fewCon_c, con23_f, con23_c, slS_sl, slK_nil, slK_sl, hB, methTCon_f, methTCon_c, srcAt, src, hok, eqS_refl, g00, hj, Int.toNat_natCast, hcutR, hokp])
      | (with_reducible exact kp_nil)
      | (with_reducible exact Kp.refl _)
      | (with_reducible exact kp_to)
      | (with_reducible refine kp_cons ?_)
      | (with_reducible refine kp_arr ?_)
      | (with_reducible refine kp_app ?_)
      | ((with_reducible refine t_cond fun A B => ?_); simp only [go_sem, Int.cast_ofNat_Int, Nat.reduceEqDiff, reduceIte, Nat.reduceAdd, Nat.reduceMul, Nat.reduceLeDiff, Nat.reduceSub, Nat.reduceLT, Nat.zero_lt_succ, Int.reduceToNat, Int.reduceAdd, Int.reduceSub, Int.reduceMul, Int.reduceNeg, Int.reduceLT, Int.reduceLE, Int.reduceEq, Int.reduceBEq, Int.reduceBNe, Nat.reduceBEq, List.reduceReplicate, e1, e2, e3, ht, awakeCon_f, awakeCon_c, con12_f, con12_c, fewCon_f, fewCon_c, con23_f, con23_c, slS_sl, slK_nil, slK_sl, hB, methTCon_f, methTCon_c, srcAt, src, hok, eqS_refl, g00, hj, Int.toNat_natCast, hcutR, hokp]; first | (with_reducible refine A.h ?_) | (with_reducible refine B.h ?_) | refine And.intro (fun hc => A.h ?_) (fun hc => B.h ?_))
      | simp only [thenQ_n, thenQ_r, thenQ_e, blockQ_n, blockQ_r, blockQ_e, scopeQ_n, scopeQ_r, scopeQ_e, Nat.reduceEqDiff, reduceIte]
      | (with_reducible refine And.intro ?_ ?_)
      | with_reducible intro vr)
    all_goals try (intros; (try simp only [Bool.and_eq_true, Bool.or_eq_true, Bool.not_eq_true', decide_eq_true_eq, decide_eq_false_iff_not, beq_iff_eq, bne_iff_ne, ne_eq, inI64, List.length_append, List.length_take] at *) <;> omega)
    · exact t3 _ (by assumption)
    refine end_ret rfl ?_
    simp only [fin, go_sem, Int.cast_ofNat_Int, Nat.reduceEqDiff, reduceIte, Nat.reduceAdd, Nat.reduceMul, Nat.reduceLeDiff, Nat.reduceSub, Nat.reduceLT, Nat.zero_lt_succ, Int.reduceToNat, Int.reduceAdd, Int.reduceSub, Int.reduceMul, Int.reduceNeg, Int.reduceLT, Int.reduceLE, Int.reduceEq, Int.reduceBEq, Int.reduceBNe, Nat.reduceBEq, List.reduceReplicate, eqS_refl, beq_self_eq_true]
    exact LeA.refl _
theorem limits_law : ∀ xs, ShL Try.prog Try.f6.params.toList xs → PC Try.prog 6 xs (.lit (.bool true))
  | [x, y, z], h => by
    obtain ⟨t, rfl, ht, _⟩ := shv_strs u33 u9 sz9 h.1
    obtain ⟨a, rfl, ha⟩ := shv_int u3 h.2.1
    obtain ⟨b, rfl, hb⟩ := shv_int u3 h.2.2.1
    exact limits_pc ht (wf_i64 ha) (wf_i64 hb)
  | [], h => h.elim
  | [_], h => h.2.elim
  | [_, _], h => h.2.2.elim
  | _ :: _ :: _ :: _ :: _, h => h.2.2.2.elim
end Go.Proofs.Ytgkjocnfdllieaa

/- WireLimits returns true for any texts and numbers. -/
namespace Go.Proofs.Ytgkjocnfdllieaa.wireLimits
open Go.ChangeShapes Go.WideShapes Go.ChangeAt Go.RowKit Go.Fw

theorem own : ownKnob Try.prog.godebug = none := by kernel_rfl
set_option maxRecDepth 100000 in
theorem lifted (os : Os) (started : os.Started) (H : Type) (enc : TypeId × Value → H) :
    ReturnsInHanded {} Try.checked os 6 .any (Rows.wireLimitsSpec.pre6 enc Try.prog Try.f6 Rows.wireLimitsRow.domain false) (Rows.wireLimitsSpec.post enc Try.prog Try.f6 false true false false) := by
  refine returnsInHanded_of_change (C := Try.checked) own started (by kernel_rfl) Try.func6
    (ChangeSpec.witness6 (enc := enc) (C := Try.checked) false ⟨#[], #[.slice none 0 0, .int .i64 0, .int .i64 0], []⟩ 8 (by kernel_rfl) (by kernel_rfl) (by kernel_rfl) (by kernel_rfl)) ?_
  intro W base args ds gs before hval hW hcnd _
  exact law_body (m := 9) limits_law (by kernel_rfl) (by kernel_rfl) rfl (by kernel_rfl) (fun ds h => by match ds, h with | [_, _, _], _ => rfl) rfl (by kernel_rfl) hval hW

theorem over : Rows.wireLimitsRow.holds Try.pinned (OpenSpec.ofChange Rows.wireLimitsSpec) :=
  OpenClaim.holds_of_wide 6 Try.f6 rfl rfl rfl rfl rfl rfl rfl ⟨rfl, rfl, rfl, rfl, rfl⟩ rfl rfl rfl rfl rfl (by kernel_rfl) Try.func6 (by kernel_rfl)
    (of_decide_eq_true (by kernel_rfl)) (by unfold Func.isWrapper; first | (rw [if_pos (by decide +kernel)]; kernel_rfl) | (rw [if_neg (by decide +kernel)]; exact ⟨rfl, rfl⟩))
    (fun os started H enc _ => lifted os started H enc)

theorem proved : Rows.WireLimitsSaid :=
  over
#print axioms proved
end Go.Proofs.Ytgkjocnfdllieaa.wireLimits
