/- A reading by both sources; the law of readings. -/
import Derived.Test.YtgkjocnfdllieaaWF

set_option linter.all false

namespace Go.Proofs.Ytgkjocnfdllieaa
open Go Go.Fw

theorem _root_.Go.Fw.PC.len {P : Program} {f : FuncId} {args : List AV} {r : AV} (i : Nat) {b : Bool} {sz : Nat} {xs : List AV} (h : args[i]? = some (.sl b sz xs)) (k : xs.length ≤ maxLen → PC P f args r) : PC P f args r := by
  intro C w vs hv hin
  refine k ?_ C w vs hv hin
  have hi : i < args.length := (List.getElem?_eq_some_iff.1 h).1
  have e : args.getD i .top = .sl b sz xs := by simp [List.getD, h]
  have := hv.2 i hi
  rw [e] at this
  generalize vs.getD i undef = v at this
  cases this with
  | nil => exact Nat.zero_le _
  | sl _ _ _ b off cap f hc hm => exact Nat.le_trans hc hm
theorem eqS_iff {a b : ByteArray} : eqS a b = true ↔ a = b := by
  unfold eqS
  rw [beq_iff_eq]
  constructor
  · intro h
    apply ByteArray.ext
    apply Array.ext'
    simpa using h
  · intro h; rw [h]
theorem eqS_dec {a b : ByteArray} : eqS a b = decide (a = b) := by
  by_cases h : a = b
  · rw [decide_eq_true h]; exact eqS_iff.2 h
  · rw [decide_eq_false h]; exact Bool.eq_false_iff.2 fun e => h (eqS_iff.1 e)
theorem take_eq {α : Type} {l m : List α} {d : α} {i : Nat} (hl : i < l.length) (hm : i < m.length) (h : l.take i = m.take i) (e : l.getD i d = m.getD i d) : l.take (i + 1) = m.take (i + 1) := by
  rw [take_next l d hl, take_next m d hm, h, e]
set_option maxHeartbeats 400000 in
theorem sameI_pc {l m : List Int} : PC Try.prog 33 [.sl false 1 (ints .i64 l), .sl false 1 (ints .i64 m)] (.lit (.bool (decide (l = m)))) := by
  refine PC.len 0 rfl fun hl => ?_
  simp only [maxLen, ints_length] at hl
  by_cases hlm : l.length = m.length
  rotate_left
  · have e1 : ((l.length : Int) != (m.length : Int)) = true := by rw [bne_iff_ne]; omega
    have e2 : decide (l = m) = false := decide_eq_false fun e => hlm (by rw [e])
    rw [e2]
    refine pc_of E25_ok mixed (fun _ => [0, 1, 4, 5, 10, 14, 25]) Try.func33 rfl (by kernel_rfl) (Nat.le_of_ble_eq_true rfl) ?_
    simp only [initF_cons, initF_nil, Nat.reduceAdd]
    refine t_name fun KF => ?_
    unfold E25
    repeat' (first
      | with_reducible refine t_seq fun K => ?_
      | with_reducible refine t_block ?_
      | with_reducible refine t_scope ?_
      | with_reducible refine t_label ?_
      | with_reducible refine t_skip ?_
      | with_reducible refine t_exit ?_
      | with_reducible refine t_ret ?_
      | with_reducible refine t_k ?_
      | (with_reducible refine t_gF ?_)
      | ((first | with_reducible refine t_kE ?_ | with_reducible refine t_kD ?_ | with_reducible refine t_gS ?_ | with_reducible refine t_kL ?_ | (with_reducible refine t_kLE ?_ ?_; rotate_left) | with_reducible refine t_region fun K => ?_ | with_reducible refine t_draw (by kernel_rfl) fun K => ?_); simp only [go_sem, Int.cast_ofNat_Int, Nat.reduceEqDiff, reduceIte, Nat.reduceAdd, Nat.reduceMul, Nat.reduceLeDiff, Nat.reduceSub, Nat.reduceLT, Nat.zero_lt_succ, Int.reduceToNat, Int.reduceAdd, Int.reduceSub, Int.reduceMul, Int.reduceNeg, Int.reduceLT, Int.reduceLE, Int.reduceEq, Int.reduceBEq, Int.reduceBNe, Nat.reduceBEq, List.reduceReplicate, e1])
      | (with_reducible exact kp_nil)
      | (with_reducible exact Kp.refl _)
      | (with_reducible exact kp_to)
      | (with_reducible refine kp_cons ?_)
      | (with_reducible refine kp_arr ?_)
      | (with_reducible refine kp_app ?_)
      | ((with_reducible refine t_cond fun A B => ?_); simp only [go_sem, Int.cast_ofNat_Int, Nat.reduceEqDiff, reduceIte, Nat.reduceAdd, Nat.reduceMul, Nat.reduceLeDiff, Nat.reduceSub, Nat.reduceLT, Nat.zero_lt_succ, Int.reduceToNat, Int.reduceAdd, Int.reduceSub, Int.reduceMul, Int.reduceNeg, Int.reduceLT, Int.reduceLE, Int.reduceEq, Int.reduceBEq, Int.reduceBNe, Nat.reduceBEq, List.reduceReplicate, e1]; first | (with_reducible refine A.h ?_) | (with_reducible refine B.h ?_) | refine And.intro (fun hc => A.h ?_) (fun hc => B.h ?_))
      | simp only [thenQ_n, thenQ_r, thenQ_e, blockQ_n, blockQ_r, blockQ_e, scopeQ_n, scopeQ_r, scopeQ_e, Nat.reduceEqDiff, reduceIte]
      | (with_reducible refine And.intro ?_ ?_)
      | with_reducible intro vr)
    refine end_ret rfl ?_
    simp only [fin, go_sem, Int.cast_ofNat_Int, Nat.reduceEqDiff, reduceIte, Nat.reduceAdd, Nat.reduceMul, Nat.reduceLeDiff, Nat.reduceSub, Nat.reduceLT, Nat.zero_lt_succ, Int.reduceToNat, Int.reduceAdd, Int.reduceSub, Int.reduceMul, Int.reduceNeg, Int.reduceLT, Int.reduceLE, Int.reduceEq, Int.reduceBEq, Int.reduceBNe, Nat.reduceBEq, List.reduceReplicate]
    exact LeA.refl _
  have e1 : ((l.length : Int) != (m.length : Int)) = false := by rw [bne_eq_false_iff_eq]; omega
  generalize hR : decide (l = m) = R
  refine pc_of E25_ok mixed (fun _ => [0, 1, 4, 5, 10, 14, 25]) Try.func33 rfl (by kernel_rfl) (Nat.le_of_ble_eq_true rfl) ?_
  simp only [initF_cons, initF_nil, Nat.reduceAdd]
  refine t_name fun KF => ?_
  unfold E25
  repeat' (first
    | with_reducible refine t_seq fun K => ?_
    | with_reducible refine t_block ?_
    | with_reducible refine t_scope ?_
    | with_reducible refine t_label ?_
    | with_reducible refine t_skip ?_
    | with_reducible refine t_exit ?_
    | with_reducible refine t_ret ?_
    | with_reducible refine t_k ?_
    | (with_reducible refine t_gF ?_)
    | ((first | with_reducible refine t_kE ?_ | with_reducible refine t_kD ?_ | with_reducible refine t_gS ?_ | with_reducible refine t_kL ?_ | (with_reducible refine t_kLE ?_ ?_; rotate_left) | with_reducible refine t_region fun K => ?_ | with_reducible refine t_draw (by kernel_rfl) fun K => ?_); simp only [go_sem, Int.cast_ofNat_Int, Nat.reduceEqDiff, reduceIte, Nat.reduceAdd, Nat.reduceMul, Nat.reduceLeDiff, Nat.reduceSub, Nat.reduceLT, Nat.zero_lt_succ, Int.reduceToNat, Int.reduceAdd, Int.reduceSub, Int.reduceMul, Int.reduceNeg, Int.reduceLT, Int.reduceLE, Int.reduceEq, Int.reduceBEq, Int.reduceBNe, Nat.reduceBEq, List.reduceReplicate, e1])
    | (with_reducible exact kp_nil)
    | (with_reducible exact Kp.refl _)
    | (with_reducible exact kp_to)
    | (with_reducible refine kp_cons ?_)
    | (with_reducible refine kp_arr ?_)
    | (with_reducible refine kp_app ?_)
    | ((with_reducible refine t_cond fun A B => ?_); simp only [go_sem, Int.cast_ofNat_Int, Nat.reduceEqDiff, reduceIte, Nat.reduceAdd, Nat.reduceMul, Nat.reduceLeDiff, Nat.reduceSub, Nat.reduceLT, Nat.zero_lt_succ, Int.reduceToNat, Int.reduceAdd, Int.reduceSub, Int.reduceMul, Int.reduceNeg, Int.reduceLT, Int.reduceLE, Int.reduceEq, Int.reduceBEq, Int.reduceBNe, Nat.reduceBEq, List.reduceReplicate, e1]; first | (with_reducible refine A.h ?_) | (with_reducible refine B.h ?_) | refine And.intro (fun hc => A.h ?_) (fun hc => B.h ?_))
    | simp only [thenQ_n, thenQ_r, thenQ_e, blockQ_n, blockQ_r, blockQ_e, scopeQ_n, scopeQ_r, scopeQ_e, Nat.reduceEqDiff, reduceIte]
    | (with_reducible refine And.intro ?_ ?_)
    | with_reducible intro vr)
  refine t_loop (ι := { i : Nat // i ≤ l.length ∧ l.take i = m.take i }) (fun i => ⟨upd (upd (upd topF 5 (.lit (.int .i64 i.1))) 1 (.sl false 1 (ints .i64 m))) 0 (.sl false 1 (ints .i64 l)), []⟩) (fun i => l.length - i.1) ⟨0, by omega, by simp⟩ ?_ ?_
  · skip
    (refine Le.frame ?_; repeat' (first | exact leF_top _ | (with_reducible refine leF_sl ?_ ?_) | (refine leF_upd (LeR.of_eq ?_) ?_))) <;> (try (simp only [go_sem, Int.cast_ofNat_Int, Nat.reduceEqDiff, reduceIte, Nat.reduceAdd, Nat.reduceMul, Nat.reduceLeDiff, Nat.reduceSub, Nat.reduceLT, Nat.zero_lt_succ, Int.reduceToNat, Int.reduceAdd, Int.reduceSub, Int.reduceMul, Int.reduceNeg, Int.reduceLT, Int.reduceLE, Int.reduceEq, Int.reduceBEq, Int.reduceBNe, Nat.reduceBEq, List.reduceReplicate]; try rfl))
  · rintro ⟨i, hi', hall⟩ K0
    rcases Nat.lt_or_ge i l.length with hc | hc
    · have h1 : decide ((i : Int) < (l.length : Int)) = true := by simp; omega
      have g1 := ints_getD .i64 l i hc
      have g2 := ints_getD .i64 m i (by omega)
      by_cases he : l.getD i 0 = m.getD i 0
      rotate_left
      · have e2 : ((l.getD i 0) != (m.getD i 0)) = true := by rw [bne_iff_ne]; exact he
        have : R = false := by rw [← hR]; exact decide_eq_false fun e => he (by rw [e])
        subst this
        repeat' (first
          | with_reducible refine t_seq fun K => ?_
          | with_reducible refine t_block ?_
          | with_reducible refine t_scope ?_
          | with_reducible refine t_label ?_
          | with_reducible refine t_skip ?_
          | with_reducible refine t_exit ?_
          | with_reducible refine t_ret ?_
          | with_reducible refine t_k ?_
          | (with_reducible refine t_gF ?_)
          | ((first | with_reducible refine t_kE ?_ | with_reducible refine t_kD ?_ | with_reducible refine t_gS ?_ | with_reducible refine t_kL ?_ | (with_reducible refine t_kLE ?_ ?_; rotate_left) | with_reducible refine t_region fun K => ?_ | with_reducible refine t_draw (by kernel_rfl) fun K => ?_); simp only [go_sem, Int.cast_ofNat_Int, Nat.reduceEqDiff, reduceIte, Nat.reduceAdd, Nat.reduceMul, Nat.reduceLeDiff, Nat.reduceSub, Nat.reduceLT, Nat.zero_lt_succ, Int.reduceToNat, Int.reduceAdd, Int.reduceSub, Int.reduceMul, Int.reduceNeg, Int.reduceLT, Int.reduceLE, Int.reduceEq, Int.reduceBEq, Int.reduceBNe, Nat.reduceBEq, List.reduceReplicate, h1, Int.toNat_natCast, g1, g2, e2])
          | (with_reducible exact kp_nil)
          | (with_reducible exact Kp.refl _)
          | (with_reducible exact kp_to)
          | (with_reducible refine kp_cons ?_)
          | (with_reducible refine kp_arr ?_)
          | (with_reducible refine kp_app ?_)
          | ((with_reducible refine t_cond fun A B => ?_); simp only [go_sem, Int.cast_ofNat_Int, Nat.reduceEqDiff, reduceIte, Nat.reduceAdd, Nat.reduceMul, Nat.reduceLeDiff, Nat.reduceSub, Nat.reduceLT, Nat.zero_lt_succ, Int.reduceToNat, Int.reduceAdd, Int.reduceSub, Int.reduceMul, Int.reduceNeg, Int.reduceLT, Int.reduceLE, Int.reduceEq, Int.reduceBEq, Int.reduceBNe, Nat.reduceBEq, List.reduceReplicate, h1, Int.toNat_natCast, g1, g2, e2]; first | (with_reducible refine A.h ?_) | (with_reducible refine B.h ?_) | refine And.intro (fun hc => A.h ?_) (fun hc => B.h ?_))
          | simp only [thenQ_n, thenQ_r, thenQ_e, blockQ_n, blockQ_r, blockQ_e, scopeQ_n, scopeQ_r, scopeQ_e, Nat.reduceEqDiff, reduceIte]
          | (with_reducible refine And.intro ?_ ?_)
          | with_reducible intro vr)
        all_goals try (intros; (try simp only [Bool.and_eq_true, Bool.or_eq_true, Bool.not_eq_true', decide_eq_true_eq, decide_eq_false_iff_not, beq_iff_eq, bne_iff_ne, ne_eq, inI64, List.length_append] at *) <;> omega)
        refine end_ret rfl ?_
        simp only [fin, go_sem, Int.cast_ofNat_Int, Nat.reduceEqDiff, reduceIte, Nat.reduceAdd, Nat.reduceMul, Nat.reduceLeDiff, Nat.reduceSub, Nat.reduceLT, Nat.zero_lt_succ, Int.reduceToNat, Int.reduceAdd, Int.reduceSub, Int.reduceMul, Int.reduceNeg, Int.reduceLT, Int.reduceLE, Int.reduceEq, Int.reduceBEq, Int.reduceBNe, Nat.reduceBEq, List.reduceReplicate]
        exact LeA.refl _
      · have e2 : ((l.getD i 0) != (m.getD i 0)) = false := by rw [bne_eq_false_iff_eq]; simpa using he
        repeat' (first
          | with_reducible refine t_seq fun K => ?_
          | with_reducible refine t_block ?_
          | with_reducible refine t_scope ?_
          | with_reducible refine t_label ?_
          | with_reducible refine t_skip ?_
          | with_reducible refine t_exit ?_
          | with_reducible refine t_ret ?_
          | with_reducible refine t_k ?_
          | (with_reducible refine t_gF ?_)
          | ((first | with_reducible refine t_kE ?_ | with_reducible refine t_kD ?_ | with_reducible refine t_gS ?_ | with_reducible refine t_kL ?_ | (with_reducible refine t_kLE ?_ ?_; rotate_left) | with_reducible refine t_region fun K => ?_ | with_reducible refine t_draw (by kernel_rfl) fun K => ?_); simp only [go_sem, Int.cast_ofNat_Int, Nat.reduceEqDiff, reduceIte, Nat.reduceAdd, Nat.reduceMul, Nat.reduceLeDiff, Nat.reduceSub, Nat.reduceLT, Nat.zero_lt_succ, Int.reduceToNat, Int.reduceAdd, Int.reduceSub, Int.reduceMul, Int.reduceNeg, Int.reduceLT, Int.reduceLE, Int.reduceEq, Int.reduceBEq, Int.reduceBNe, Nat.reduceBEq, List.reduceReplicate, h1, Int.toNat_natCast, g1, g2, e2])
          | (with_reducible exact kp_nil)
          | (with_reducible exact Kp.refl _)
          | (with_reducible exact kp_to)
          | (with_reducible refine kp_cons ?_)
          | (with_reducible refine kp_arr ?_)
          | (with_reducible refine kp_app ?_)
          | ((with_reducible refine t_cond fun A B => ?_); simp only [go_sem, Int.cast_ofNat_Int, Nat.reduceEqDiff, reduceIte, Nat.reduceAdd, Nat.reduceMul, Nat.reduceLeDiff, Nat.reduceSub, Nat.reduceLT, Nat.zero_lt_succ, Int.reduceToNat, Int.reduceAdd, Int.reduceSub, Int.reduceMul, Int.reduceNeg, Int.reduceLT, Int.reduceLE, Int.reduceEq, Int.reduceBEq, Int.reduceBNe, Nat.reduceBEq, List.reduceReplicate, h1, Int.toNat_natCast, g1, g2, e2]; first | (with_reducible refine A.h ?_) | (with_reducible refine B.h ?_) | refine And.intro (fun hc => A.h ?_) (fun hc => B.h ?_))
          | simp only [thenQ_n, thenQ_r, thenQ_e, blockQ_n, blockQ_r, blockQ_e, scopeQ_n, scopeQ_r, scopeQ_e, Nat.reduceEqDiff, reduceIte]
          | (with_reducible refine And.intro ?_ ?_)
          | with_reducible intro vr)
        all_goals try (intros; (try simp only [Bool.and_eq_true, Bool.or_eq_true, Bool.not_eq_true', decide_eq_true_eq, decide_eq_false_iff_not, beq_iff_eq, bne_iff_ne, ne_eq, inI64, List.length_append] at *) <;> omega)
        refine ⟨⟨i + 1, by omega, take_eq hc (by omega) hall he⟩, by simp only; omega, ?_⟩
        (refine Le.frame ?_; repeat' (first | exact leF_top _ | (with_reducible refine leF_sl ?_ ?_) | (refine leF_upd (LeR.of_eq ?_) ?_))) <;> (try (simp only [go_sem, Int.cast_ofNat_Int, Nat.reduceEqDiff, reduceIte, Nat.reduceAdd, Nat.reduceMul, Nat.reduceLeDiff, Nat.reduceSub, Nat.reduceLT, Nat.zero_lt_succ, Int.reduceToNat, Int.reduceAdd, Int.reduceSub, Int.reduceMul, Int.reduceNeg, Int.reduceLT, Int.reduceLE, Int.reduceEq, Int.reduceBEq, Int.reduceBNe, Nat.reduceBEq, List.reduceReplicate]; try rfl))
    · have h1 : decide ((i : Int) < (l.length : Int)) = false := by simp; omega
      have : i = l.length := by omega
      subst this
      rw [List.take_length, hlm, List.take_length] at hall
      have : R = true := by rw [← hR]; exact decide_eq_true hall
      subst this
      repeat' (first
        | with_reducible refine t_seq fun K => ?_
        | with_reducible refine t_block ?_
        | with_reducible refine t_scope ?_
        | with_reducible refine t_label ?_
        | with_reducible refine t_skip ?_
        | with_reducible refine t_exit ?_
        | with_reducible refine t_ret ?_
        | with_reducible refine t_k ?_
        | (with_reducible refine t_gF ?_)
        | ((first | with_reducible refine t_kE ?_ | with_reducible refine t_kD ?_ | with_reducible refine t_gS ?_ | with_reducible refine t_kL ?_ | (with_reducible refine t_kLE ?_ ?_; rotate_left) | with_reducible refine t_region fun K => ?_ | with_reducible refine t_draw (by kernel_rfl) fun K => ?_); simp only [go_sem, Int.cast_ofNat_Int, Nat.reduceEqDiff, reduceIte, Nat.reduceAdd, Nat.reduceMul, Nat.reduceLeDiff, Nat.reduceSub, Nat.reduceLT, Nat.zero_lt_succ, Int.reduceToNat, Int.reduceAdd, Int.reduceSub, Int.reduceMul, Int.reduceNeg, Int.reduceLT, Int.reduceLE, Int.reduceEq, Int.reduceBEq, Int.reduceBNe, Nat.reduceBEq, List.reduceReplicate, h1])
        | (with_reducible exact kp_nil)
        | (with_reducible exact Kp.refl _)
        | (with_reducible exact kp_to)
        | (with_reducible refine kp_cons ?_)
        | (with_reducible refine kp_arr ?_)
        | (with_reducible refine kp_app ?_)
        | ((with_reducible refine t_cond fun A B => ?_); simp only [go_sem, Int.cast_ofNat_Int, Nat.reduceEqDiff, reduceIte, Nat.reduceAdd, Nat.reduceMul, Nat.reduceLeDiff, Nat.reduceSub, Nat.reduceLT, Nat.zero_lt_succ, Int.reduceToNat, Int.reduceAdd, Int.reduceSub, Int.reduceMul, Int.reduceNeg, Int.reduceLT, Int.reduceLE, Int.reduceEq, Int.reduceBEq, Int.reduceBNe, Nat.reduceBEq, List.reduceReplicate, h1]; first | (with_reducible refine A.h ?_) | (with_reducible refine B.h ?_) | refine And.intro (fun hc => A.h ?_) (fun hc => B.h ?_))
        | simp only [thenQ_n, thenQ_r, thenQ_e, blockQ_n, blockQ_r, blockQ_e, scopeQ_n, scopeQ_r, scopeQ_e, Nat.reduceEqDiff, reduceIte]
        | (with_reducible refine And.intro ?_ ?_)
        | with_reducible intro vr)
      refine end_ret rfl ?_
      simp only [fin, go_sem, Int.cast_ofNat_Int, Nat.reduceEqDiff, reduceIte, Nat.reduceAdd, Nat.reduceMul, Nat.reduceLeDiff, Nat.reduceSub, Nat.reduceLT, Nat.zero_lt_succ, Int.reduceToNat, Int.reduceAdd, Int.reduceSub, Int.reduceMul, Int.reduceNeg, Int.reduceLT, Int.reduceLE, Int.reduceEq, Int.reduceBEq, Int.reduceBNe, Nat.reduceBEq, List.reduceReplicate]
      exact LeA.refl _
noncomputable def sameICon : PCon Try.prog where
  f := 33
  c := fun
    | [x, y] => match slK .i64 x, slK .i64 y with
      | some l, some m => some (True, .lit (.bool (decide (l = m))))
      | _, _ => none
    | _ => none
  ok := by
    intro args p r hc hp
    split at hc
    · split at hc
      · rename_i hx hy
        cases hc
        exact PC.weak sameI_pc ⟨slK_le hx, slK_le hy, trivial⟩
      · cases hc
    · cases hc
  fk := fk33
theorem sameICon_f : sameICon.f = 33 := rfl
theorem sameICon_c {x y : AV} : sameICon.c [x, y] = match slK .i64 x, slK .i64 y with
      | some l, some m => some (True, .lit (.bool (decide (l = m))))
      | _, _ => none := rfl
set_option maxHeartbeats 400000 in
theorem sameT_pc {l m : List ByteArray} : PC Try.prog 34 [.sl false 1 (strs l), .sl false 1 (strs m)] (.lit (.bool (decide (l = m)))) := by
  refine PC.len 0 rfl fun hl => ?_
  simp only [maxLen, strs_length] at hl
  by_cases hlm : l.length = m.length
  rotate_left
  · have e1 : ((l.length : Int) != (m.length : Int)) = true := by rw [bne_iff_ne]; omega
    have e2 : decide (l = m) = false := decide_eq_false fun e => hlm (by rw [e])
    rw [e2]
    refine pc_of E25_ok mixed (fun _ => [0, 1, 4, 5, 10, 14, 25]) Try.func34 rfl (by kernel_rfl) (Nat.le_of_ble_eq_true rfl) ?_
    simp only [initF_cons, initF_nil, Nat.reduceAdd]
    refine t_name fun KF => ?_
    unfold E25
    repeat' (first
      | with_reducible refine t_seq fun K => ?_
      | with_reducible refine t_block ?_
      | with_reducible refine t_scope ?_
      | with_reducible refine t_label ?_
      | with_reducible refine t_skip ?_
      | with_reducible refine t_exit ?_
      | with_reducible refine t_ret ?_
      | with_reducible refine t_k ?_
      | (with_reducible refine t_gF ?_)
      | ((first | with_reducible refine t_kE ?_ | with_reducible refine t_kD ?_ | with_reducible refine t_gS ?_ | with_reducible refine t_kL ?_ | (with_reducible refine t_kLE ?_ ?_; rotate_left) | with_reducible refine t_region fun K => ?_ | with_reducible refine t_draw (by kernel_rfl) fun K => ?_); simp only [go_sem, Int.cast_ofNat_Int, Nat.reduceEqDiff, reduceIte, Nat.reduceAdd, Nat.reduceMul, Nat.reduceLeDiff, Nat.reduceSub, Nat.reduceLT, Nat.zero_lt_succ, Int.reduceToNat, Int.reduceAdd, Int.reduceSub, Int.reduceMul, Int.reduceNeg, Int.reduceLT, Int.reduceLE, Int.reduceEq, Int.reduceBEq, Int.reduceBNe, Nat.reduceBEq, List.reduceReplicate, e1])
      | (with_reducible exact kp_nil)
      | (with_reducible exact Kp.refl _)
      | (with_reducible exact kp_to)
      | (with_reducible refine kp_cons ?_)
      | (with_reducible refine kp_arr ?_)
      | (with_reducible refine kp_app ?_)
      | ((with_reducible refine t_cond fun A B => ?_); simp only [go_sem, Int.cast_ofNat_Int, Nat.reduceEqDiff, reduceIte, Nat.reduceAdd, Nat.reduceMul, Nat.reduceLeDiff, Nat.reduceSub, Nat.reduceLT, Nat.zero_lt_succ, Int.reduceToNat, Int.reduceAdd, Int.reduceSub, Int.reduceMul, Int.reduceNeg, Int.reduceLT, Int.reduceLE, Int.reduceEq, Int.reduceBEq, Int.reduceBNe, Nat.reduceBEq, List.reduceReplicate, e1]; first | (with_reducible refine A.h ?_) | (with_reducible refine B.h ?_) | refine And.intro (fun hc => A.h ?_) (fun hc => B.h ?_))
      | simp only [thenQ_n, thenQ_r, thenQ_e, blockQ_n, blockQ_r, blockQ_e, scopeQ_n, scopeQ_r, scopeQ_e, Nat.reduceEqDiff, reduceIte]
      | (with_reducible refine And.intro ?_ ?_)
      | with_reducible intro vr)
    refine end_ret rfl ?_
    simp only [fin, go_sem, Int.cast_ofNat_Int, Nat.reduceEqDiff, reduceIte, Nat.reduceAdd, Nat.reduceMul, Nat.reduceLeDiff, Nat.reduceSub, Nat.reduceLT, Nat.zero_lt_succ, Int.reduceToNat, Int.reduceAdd, Int.reduceSub, Int.reduceMul, Int.reduceNeg, Int.reduceLT, Int.reduceLE, Int.reduceEq, Int.reduceBEq, Int.reduceBNe, Nat.reduceBEq, List.reduceReplicate]
    exact LeA.refl _
  have e1 : ((l.length : Int) != (m.length : Int)) = false := by rw [bne_eq_false_iff_eq]; omega
  generalize hR : decide (l = m) = R
  refine pc_of E25_ok mixed (fun _ => [0, 1, 4, 5, 10, 14, 25]) Try.func34 rfl (by kernel_rfl) (Nat.le_of_ble_eq_true rfl) ?_
  simp only [initF_cons, initF_nil, Nat.reduceAdd]
  refine t_name fun KF => ?_
  unfold E25
  repeat' (first
    | with_reducible refine t_seq fun K => ?_
    | with_reducible refine t_block ?_
    | with_reducible refine t_scope ?_
    | with_reducible refine t_label ?_
    | with_reducible refine t_skip ?_
    | with_reducible refine t_exit ?_
    | with_reducible refine t_ret ?_
    | with_reducible refine t_k ?_
    | (with_reducible refine t_gF ?_)
    | ((first | with_reducible refine t_kE ?_ | with_reducible refine t_kD ?_ | with_reducible refine t_gS ?_ | with_reducible refine t_kL ?_ | (with_reducible refine t_kLE ?_ ?_; rotate_left) | with_reducible refine t_region fun K => ?_ | with_reducible refine t_draw (by kernel_rfl) fun K => ?_); simp only [go_sem, Int.cast_ofNat_Int, Nat.reduceEqDiff, reduceIte, Nat.reduceAdd, Nat.reduceMul, Nat.reduceLeDiff, Nat.reduceSub, Nat.reduceLT, Nat.zero_lt_succ, Int.reduceToNat, Int.reduceAdd, Int.reduceSub, Int.reduceMul, Int.reduceNeg, Int.reduceLT, Int.reduceLE, Int.reduceEq, Int.reduceBEq, Int.reduceBNe, Nat.reduceBEq, List.reduceReplicate, e1])
    | (with_reducible exact kp_nil)
    | (with_reducible exact Kp.refl _)
    | (with_reducible exact kp_to)
    | (with_reducible refine kp_cons ?_)
    | (with_reducible refine kp_arr ?_)
    | (with_reducible refine kp_app ?_)
    | ((with_reducible refine t_cond fun A B => ?_); simp only [go_sem, Int.cast_ofNat_Int, Nat.reduceEqDiff, reduceIte, Nat.reduceAdd, Nat.reduceMul, Nat.reduceLeDiff, Nat.reduceSub, Nat.reduceLT, Nat.zero_lt_succ, Int.reduceToNat, Int.reduceAdd, Int.reduceSub, Int.reduceMul, Int.reduceNeg, Int.reduceLT, Int.reduceLE, Int.reduceEq, Int.reduceBEq, Int.reduceBNe, Nat.reduceBEq, List.reduceReplicate, e1]; first | (with_reducible refine A.h ?_) | (with_reducible refine B.h ?_) | refine And.intro (fun hc => A.h ?_) (fun hc => B.h ?_))
    | simp only [thenQ_n, thenQ_r, thenQ_e, blockQ_n, blockQ_r, blockQ_e, scopeQ_n, scopeQ_r, scopeQ_e, Nat.reduceEqDiff, reduceIte]
    | (with_reducible refine And.intro ?_ ?_)
    | with_reducible intro vr)
  refine t_loop (ι := { i : Nat // i ≤ l.length ∧ l.take i = m.take i }) (fun i => ⟨upd (upd (upd topF 5 (.lit (.int .i64 i.1))) 1 (.sl false 1 (strs m))) 0 (.sl false 1 (strs l)), []⟩) (fun i => l.length - i.1) ⟨0, by omega, by simp⟩ ?_ ?_
  · skip
    (refine Le.frame ?_; repeat' (first | exact leF_top _ | (with_reducible refine leF_sl ?_ ?_) | (refine leF_upd (LeR.of_eq ?_) ?_))) <;> (try (simp only [go_sem, Int.cast_ofNat_Int, Nat.reduceEqDiff, reduceIte, Nat.reduceAdd, Nat.reduceMul, Nat.reduceLeDiff, Nat.reduceSub, Nat.reduceLT, Nat.zero_lt_succ, Int.reduceToNat, Int.reduceAdd, Int.reduceSub, Int.reduceMul, Int.reduceNeg, Int.reduceLT, Int.reduceLE, Int.reduceEq, Int.reduceBEq, Int.reduceBNe, Nat.reduceBEq, List.reduceReplicate]; try rfl))
  · rintro ⟨i, hi', hall⟩ K0
    rcases Nat.lt_or_ge i l.length with hc | hc
    · have h1 : decide ((i : Int) < (l.length : Int)) = true := by simp; omega
      have g1 := strs_getD l i hc
      have g2 := strs_getD m i (by omega)
      by_cases he : l.getD i ByteArray.empty = m.getD i ByteArray.empty
      rotate_left
      · have e2 : (!eqS (l.getD i ByteArray.empty) (m.getD i ByteArray.empty)) = true := by rw [eqS_dec, decide_eq_false he]; rfl
        have : R = false := by rw [← hR]; exact decide_eq_false fun e => he (by rw [e])
        subst this
        repeat' (first
          | with_reducible refine t_seq fun K => ?_
          | with_reducible refine t_block ?_
          | with_reducible refine t_scope ?_
          | with_reducible refine t_label ?_
          | with_reducible refine t_skip ?_
          | with_reducible refine t_exit ?_
          | with_reducible refine t_ret ?_
          | with_reducible refine t_k ?_
          | (with_reducible refine t_gF ?_)
          | ((first | with_reducible refine t_kE ?_ | with_reducible refine t_kD ?_ | with_reducible refine t_gS ?_ | with_reducible refine t_kL ?_ | (with_reducible refine t_kLE ?_ ?_; rotate_left) | with_reducible refine t_region fun K => ?_ | with_reducible refine t_draw (by kernel_rfl) fun K => ?_); simp only [go_sem, Int.cast_ofNat_Int, Nat.reduceEqDiff, reduceIte, Nat.reduceAdd, Nat.reduceMul, Nat.reduceLeDiff, Nat.reduceSub, Nat.reduceLT, Nat.zero_lt_succ, Int.reduceToNat, Int.reduceAdd, Int.reduceSub, Int.reduceMul, Int.reduceNeg, Int.reduceLT, Int.reduceLE, Int.reduceEq, Int.reduceBEq, Int.reduceBNe, Nat.reduceBEq, List.reduceReplicate, h1, Int.toNat_natCast, g1, g2, e2])
          | (with_reducible exact kp_nil)
          | (with_reducible exact Kp.refl _)
          | (with_reducible exact kp_to)
          | (with_reducible refine kp_cons ?_)
          | (with_reducible refine kp_arr ?_)
          | (with_reducible refine kp_app ?_)
          | ((with_reducible refine t_cond fun A B => ?_); simp only [go_sem, Int.cast_ofNat_Int, Nat.reduceEqDiff, reduceIte, Nat.reduceAdd, Nat.reduceMul, Nat.reduceLeDiff, Nat.reduceSub, Nat.reduceLT, Nat.zero_lt_succ, Int.reduceToNat, Int.reduceAdd, Int.reduceSub, Int.reduceMul, Int.reduceNeg, Int.reduceLT, Int.reduceLE, Int.reduceEq, Int.reduceBEq, Int.reduceBNe, Nat.reduceBEq, List.reduceReplicate, h1, Int.toNat_natCast, g1, g2, e2]; first | (with_reducible refine A.h ?_) | (with_reducible refine B.h ?_) | refine And.intro (fun hc => A.h ?_) (fun hc => B.h ?_))
          | simp only [thenQ_n, thenQ_r, thenQ_e, blockQ_n, blockQ_r, blockQ_e, scopeQ_n, scopeQ_r, scopeQ_e, Nat.reduceEqDiff, reduceIte]
          | (with_reducible refine And.intro ?_ ?_)
          | with_reducible intro vr)
        all_goals try (intros; (try simp only [Bool.and_eq_true, Bool.or_eq_true, Bool.not_eq_true', decide_eq_true_eq, decide_eq_false_iff_not, beq_iff_eq, bne_iff_ne, ne_eq, inI64, List.length_append] at *) <;> omega)
        refine end_ret rfl ?_
        simp only [fin, go_sem, Int.cast_ofNat_Int, Nat.reduceEqDiff, reduceIte, Nat.reduceAdd, Nat.reduceMul, Nat.reduceLeDiff, Nat.reduceSub, Nat.reduceLT, Nat.zero_lt_succ, Int.reduceToNat, Int.reduceAdd, Int.reduceSub, Int.reduceMul, Int.reduceNeg, Int.reduceLT, Int.reduceLE, Int.reduceEq, Int.reduceBEq, Int.reduceBNe, Nat.reduceBEq, List.reduceReplicate]
        exact LeA.refl _
      · have e2 : (!eqS (l.getD i ByteArray.empty) (m.getD i ByteArray.empty)) = false := by rw [eqS_dec, decide_eq_true (by simpa using he)]; rfl
        repeat' (first
          | with_reducible refine t_seq fun K => ?_
          | with_reducible refine t_block ?_
          | with_reducible refine t_scope ?_
          | with_reducible refine t_label ?_
          | with_reducible refine t_skip ?_
          | with_reducible refine t_exit ?_
          | with_reducible refine t_ret ?_
          | with_reducible refine t_k ?_
          | (with_reducible refine t_gF ?_)
          | ((first | with_reducible refine t_kE ?_ | with_reducible refine t_kD ?_ | with_reducible refine t_gS ?_ | with_reducible refine t_kL ?_ | (with_reducible refine t_kLE ?_ ?_; rotate_left) | with_reducible refine t_region fun K => ?_ | with_reducible refine t_draw (by kernel_rfl) fun K => ?_); simp only [go_sem, Int.cast_ofNat_Int, Nat.reduceEqDiff, reduceIte, Nat.reduceAdd, Nat.reduceMul, Nat.reduceLeDiff, Nat.reduceSub, Nat.reduceLT, Nat.zero_lt_succ, Int.reduceToNat, Int.reduceAdd, Int.reduceSub, Int.reduceMul, Int.reduceNeg, Int.reduceLT, Int.reduceLE, Int.reduceEq, Int.reduceBEq, Int.reduceBNe, Nat.reduceBEq, List.reduceReplicate, h1, Int.toNat_natCast, g1, g2, e2])
          | (with_reducible exact kp_nil)
          | (with_reducible exact Kp.refl _)
          | (with_reducible exact kp_to)
          | (with_reducible refine kp_cons ?_)
          | (with_reducible refine kp_arr ?_)
          | (with_reducible refine kp_app ?_)
          | ((with_reducible refine t_cond fun A B => ?_); simp only [go_sem, Int.cast_ofNat_Int, Nat.reduceEqDiff, reduceIte, Nat.reduceAdd, Nat.reduceMul, Nat.reduceLeDiff, Nat.reduceSub, Nat.reduceLT, Nat.zero_lt_succ, Int.reduceToNat, Int.reduceAdd, Int.reduceSub, Int.reduceMul, Int.reduceNeg, Int.reduceLT, Int.reduceLE, Int.reduceEq, Int.reduceBEq, Int.reduceBNe, Nat.reduceBEq, List.reduceReplicate, h1, Int.toNat_natCast, g1, g2, e2]; first | (with_reducible refine A.h ?_) | (with_reducible refine B.h ?_) | refine And.intro (fun hc => A.h ?_) (fun hc => B.h ?_))
          | simp only [thenQ_n, thenQ_r, thenQ_e, blockQ_n, blockQ_r, blockQ_e, scopeQ_n, scopeQ_r, scopeQ_e, Nat.reduceEqDiff, reduceIte]
          | (with_reducible refine And.intro ?_ ?_)
          | with_reducible intro vr)
        all_goals try (intros; (try simp only [Bool.and_eq_true, Bool.or_eq_true, Bool.not_eq_true', decide_eq_true_eq, decide_eq_false_iff_not, beq_iff_eq, bne_iff_ne, ne_eq, inI64, List.length_append] at *) <;> omega)
        refine ⟨⟨i + 1, by omega, take_eq hc (by omega) hall he⟩, by simp only; omega, ?_⟩
        (refine Le.frame ?_; repeat' (first | exact leF_top _ | (with_reducible refine leF_sl ?_ ?_) | (refine leF_upd (LeR.of_eq ?_) ?_))) <;> (try (simp only [go_sem, Int.cast_ofNat_Int, Nat.reduceEqDiff, reduceIte, Nat.reduceAdd, Nat.reduceMul, Nat.reduceLeDiff, Nat.reduceSub, Nat.reduceLT, Nat.zero_lt_succ, Int.reduceToNat, Int.reduceAdd, Int.reduceSub, Int.reduceMul, Int.reduceNeg, Int.reduceLT, Int.reduceLE, Int.reduceEq, Int.reduceBEq, Int.reduceBNe, Nat.reduceBEq, List.reduceReplicate]; try rfl))
    · have h1 : decide ((i : Int) < (l.length : Int)) = false := by simp; omega
      have : i = l.length := by omega
      subst this
      rw [List.take_length, hlm, List.take_length] at hall
      have : R = true := by rw [← hR]; exact decide_eq_true hall
      subst this
      repeat' (first
        | with_reducible refine t_seq fun K => ?_
        | with_reducible refine t_block ?_
        | with_reducible refine t_scope ?_
        | with_reducible refine t_label ?_
        | with_reducible refine t_skip ?_
        | with_reducible refine t_exit ?_
        | with_reducible refine t_ret ?_
        | with_reducible refine t_k ?_
        | (with_reducible refine t_gF ?_)
        | ((first | with_reducible refine t_kE ?_ | with_reducible refine t_kD ?_ | with_reducible refine t_gS ?_ | with_reducible refine t_kL ?_ | (with_reducible refine t_kLE ?_ ?_; rotate_left) | with_reducible refine t_region fun K => ?_ | with_reducible refine t_draw (by kernel_rfl) fun K => ?_); simp only [go_sem, Int.cast_ofNat_Int, Nat.reduceEqDiff, reduceIte, Nat.reduceAdd, Nat.reduceMul, Nat.reduceLeDiff, Nat.reduceSub, Nat.reduceLT, Nat.zero_lt_succ, Int.reduceToNat, Int.reduceAdd, Int.reduceSub, Int.reduceMul, Int.reduceNeg, Int.reduceLT, Int.reduceLE, Int.reduceEq, Int.reduceBEq, Int.reduceBNe, Nat.reduceBEq, List.reduceReplicate, h1])
        | (with_reducible exact kp_nil)
        | (with_reducible exact Kp.refl _)
        | (with_reducible exact kp_to)
        | (with_reducible refine kp_cons ?_)
        | (with_reducible refine kp_arr ?_)
        | (with_reducible refine kp_app ?_)
        | ((with_reducible refine t_cond fun A B => ?_); simp only [go_sem, Int.cast_ofNat_Int, Nat.reduceEqDiff, reduceIte, Nat.reduceAdd, Nat.reduceMul, Nat.reduceLeDiff, Nat.reduceSub, Nat.reduceLT, Nat.zero_lt_succ, Int.reduceToNat, Int.reduceAdd, Int.reduceSub, Int.reduceMul, Int.reduceNeg, Int.reduceLT, Int.reduceLE, Int.reduceEq, Int.reduceBEq, Int.reduceBNe, Nat.reduceBEq, List.reduceReplicate, h1]; first | (with_reducible refine A.h ?_) | (with_reducible refine B.h ?_) | refine And.intro (fun hc => A.h ?_) (fun hc => B.h ?_))
        | simp only [thenQ_n, thenQ_r, thenQ_e, blockQ_n, blockQ_r, blockQ_e, scopeQ_n, scopeQ_r, scopeQ_e, Nat.reduceEqDiff, reduceIte]
        | (with_reducible refine And.intro ?_ ?_)
        | with_reducible intro vr)
      refine end_ret rfl ?_
      simp only [fin, go_sem, Int.cast_ofNat_Int, Nat.reduceEqDiff, reduceIte, Nat.reduceAdd, Nat.reduceMul, Nat.reduceLeDiff, Nat.reduceSub, Nat.reduceLT, Nat.zero_lt_succ, Int.reduceToNat, Int.reduceAdd, Int.reduceSub, Int.reduceMul, Int.reduceNeg, Int.reduceLT, Int.reduceLE, Int.reduceEq, Int.reduceBEq, Int.reduceBNe, Nat.reduceBEq, List.reduceReplicate]
      exact LeA.refl _
noncomputable def sameTCon : PCon Try.prog where
  f := 34
  c := fun
    | [x, y] => match slS x, slS y with
      | some l, some m => some (True, .lit (.bool (decide (l = m))))
      | _, _ => none
    | _ => none
  ok := by
    intro args p r hc hp
    split at hc
    · split at hc
      · rename_i hx hy
        cases hc
        exact PC.weak sameT_pc ⟨slS_le hx, slS_le hy, trivial⟩
      · cases hc
    · cases hc
  fk := fk34
theorem sameTCon_f : sameTCon.f = 34 := rfl
theorem sameTCon_c {x y : AV} : sameTCon.c [x, y] = match slS x, slS y with
      | some l, some m => some (True, .lit (.bool (decide (l = m))))
      | _, _ => none := rfl
noncomputable def rintCon : ECon Try.prog where
  f := 49
  c := fun args σ k => match args with
    | [.ref o 0, .lit (.int .i64 lo), .lit (.int .i64 hi)] => rsrcAt σ o fun σ' l e0 => okL l ∧ k (.lit (.int .i64 (numS l e0 lo hi 2).1)) (σ'.set o (rsrc (numS l e0 lo hi 2).2.1 (numS l e0 lo hi 2).2.2))
    | _ => False
  ok := by
    intro args σ k h
    split at h
    · obtain ⟨σ', l, e0, h1, h2, h3, h4⟩ := rsrcAt_inv h
      exact EC.clB h1 (rint_ec h2 h3 h4)
    · exact h.elim
  fk := fk49
theorem rintCon_f : rintCon.f = 49 := rfl
theorem rintCon_c {σ : List AObj} {k : AV → List AObj → Prop} {o : Nat} {lo hi : Int} : rintCon.c [.ref o 0, .lit (.int .i64 lo), .lit (.int .i64 hi)] σ k = rsrcAt σ o fun σ' l e0 => okL l ∧ k (.lit (.int .i64 (numS l e0 lo hi 2).1)) (σ'.set o (rsrc (numS l e0 lo hi 2).2.1 (numS l e0 lo hi 2).2.2)) := rfl
noncomputable def rboolCon : ECon Try.prog where
  f := 50
  c := fun args σ k => match args with
    | [.ref o 0] => rsrcAt σ o fun σ' l e0 => okL l ∧ k (.lit (.bool (runS (false : Bool) l e0 (boolS l)).1)) (σ'.set o (rsrc (runS (false : Bool) l e0 (boolS l)).2.1 (runS (false : Bool) l e0 (boolS l)).2.2))
    | _ => False
  ok := by
    intro args σ k h
    split at h
    · obtain ⟨σ', l, e0, h1, h2, h3, h4⟩ := rsrcAt_inv h
      exact EC.clB h1 (rbool_ec h2 h3 h4)
    · exact h.elim
  fk := fk50
theorem rboolCon_f : rboolCon.f = 50 := rfl
theorem rboolCon_c {σ : List AObj} {k : AV → List AObj → Prop} {o : Nat} : rboolCon.c [.ref o 0] σ k = rsrcAt σ o fun σ' l e0 => okL l ∧ k (.lit (.bool (runS (false : Bool) l e0 (boolS l)).1)) (σ'.set o (rsrc (runS (false : Bool) l e0 (boolS l)).2.1 (runS (false : Bool) l e0 (boolS l)).2.2)) := rfl
noncomputable def rmICon : ECon Try.prog where
  f := 52
  c := fun args σ k => match args with
    | [.ref o 0, .lit (.int .i64 most), .lit (.int .i64 lo), .lit (.int .i64 hi)] => rsrcAt σ o fun σ' l e0 => okL l ∧ k (.sl false 1 (ints .i64 (runS ([] : List Int) l e0 (manyS (fun l e => numS l e lo hi 2) l 0 most)).1)) (σ'.set o (rsrc (runS ([] : List Int) l e0 (manyS (fun l e => numS l e lo hi 2) l 0 most)).2.1 (runS ([] : List Int) l e0 (manyS (fun l e => numS l e lo hi 2) l 0 most)).2.2))
    | _ => False
  ok := by
    intro args σ k h
    split at h
    · obtain ⟨σ', l, e0, h1, h2, h3, h4⟩ := rsrcAt_inv h
      exact EC.clB h1 (rmanyI_ec h2 h3 h4)
    · exact h.elim
  fk := fk52
theorem rmICon_f : rmICon.f = 52 := rfl
theorem rmICon_c {σ : List AObj} {k : AV → List AObj → Prop} {o : Nat} {most lo hi : Int} : rmICon.c [.ref o 0, .lit (.int .i64 most), .lit (.int .i64 lo), .lit (.int .i64 hi)] σ k = rsrcAt σ o fun σ' l e0 => okL l ∧ k (.sl false 1 (ints .i64 (runS ([] : List Int) l e0 (manyS (fun l e => numS l e lo hi 2) l 0 most)).1)) (σ'.set o (rsrc (runS ([] : List Int) l e0 (manyS (fun l e => numS l e lo hi 2) l 0 most)).2.1 (runS ([] : List Int) l e0 (manyS (fun l e => numS l e lo hi 2) l 0 most)).2.2)) := rfl
theorem rmanyT'_ec {σ : List AObj} {o : Nat} {l : List Int} {e0 most long : Int} (ho : σ[o]? = some (rsrc l e0)) (hl : okL l) {k : AV → List AObj → Prop}
    (hk : k (.sl false 1 (strs (runS ([] : List ByteArray) l e0 (manyS (fun l e => wordS l e long) l 0 most)).1)) (σ.set o (rsrc (runS ([] : List ByteArray) l e0 (manyS (fun l e => wordS l e long) l 0 most)).2.1 (runS ([] : List ByteArray) l e0 (manyS (fun l e => wordS l e long) l 0 most)).2.2))) : EC Try.prog 53 [.ref o 0, .lit (.int .i64 most), .lit (.int .i64 long)] σ k := by
  have e : runS ([] : List ByteArray) l e0 (manyS (fun l e => wordS l e long) l 0 most) = runS ([] : List ByteArray) l e0 (manyS (fun l e => runS (⟨#[]⟩ : ByteArray) l e (wordS l 0 long)) l 0 most) := by
    by_cases h0 : e0 = 0
    · subst h0; exact (sim_many sim_word rd_rword hl).symm
    · unfold runS; rw [if_pos h0, if_pos h0]
  rw [e] at hk
  exact rmanyT_ec ho hl hk
noncomputable def rmTCon : ECon Try.prog where
  f := 53
  c := fun args σ k => match args with
    | [.ref o 0, .lit (.int .i64 most), .lit (.int .i64 long)] => rsrcAt σ o fun σ' l e0 => okL l ∧ k (.sl false 1 (strs (runS ([] : List ByteArray) l e0 (manyS (fun l e => wordS l e long) l 0 most)).1)) (σ'.set o (rsrc (runS ([] : List ByteArray) l e0 (manyS (fun l e => wordS l e long) l 0 most)).2.1 (runS ([] : List ByteArray) l e0 (manyS (fun l e => wordS l e long) l 0 most)).2.2))
    | _ => False
  ok := by
    intro args σ k h
    split at h
    · obtain ⟨σ', l, e0, h1, h2, h3, h4⟩ := rsrcAt_inv h
      exact EC.clB h1 (rmanyT'_ec h2 h3 h4)
    · exact h.elim
  fk := fk53
theorem rmTCon_f : rmTCon.f = 53 := rfl
theorem rmTCon_c {σ : List AObj} {k : AV → List AObj → Prop} {o : Nat} {most long : Int} : rmTCon.c [.ref o 0, .lit (.int .i64 most), .lit (.int .i64 long)] σ k = rsrcAt σ o fun σ' l e0 => okL l ∧ k (.sl false 1 (strs (runS ([] : List ByteArray) l e0 (manyS (fun l e => wordS l e long) l 0 most)).1)) (σ'.set o (rsrc (runS ([] : List ByteArray) l e0 (manyS (fun l e => wordS l e long) l 0 most)).2.1 (runS ([] : List ByteArray) l e0 (manyS (fun l e => wordS l e long) l 0 most)).2.2)) := rfl

/-- What a reading leaves. -/
def stepS (kind most lo hi : Int) (l : List Int) (e0 : Int) : List Int × Int :=
  if kind = 0 then (numS l e0 lo hi 2).2 else if kind = 1 then (runS (false : Bool) l e0 (boolS l)).2 else if kind = 2 then (runS (⟨#[]⟩ : ByteArray) l e0 (wordS l 0 most)).2
  else if kind = 3 then (runS ([] : List Int) l e0 (manyS (fun l e => numS l e lo hi 2) l 0 most)).2 else (runS ([] : List ByteArray) l e0 (manyS (fun l e => wordS l e hi) l 0 most)).2
theorem lk_nn {σ : List AObj} {o p : Nat} {ob : AObj} (hp : σ[p]? = some ob) (hne : o ≠ p) (x : AObj) (m : List AObj) : ((σ ++ m).set o x)[p]? = some ob := by
  rw [List.getElem?_set_ne hne]; exact get_app_of hp m
theorem bds_two {n : Nat} {σ : List AObj} (h : BdS n σ) (o p : Nat) (l m : List Int) (e e' : Int) : BdS n ((σ.set o (src l e)).set p (rsrc m e')) := bds_rsrc (bds_src h o l e) p m e'
noncomputable def E60 : Env := envOf (P := Try.prog) zer (fun _ => false) (fun _ => false) [sameICon, sameTCon] [srcintCon, methBCon, methWCon, methICon, methTCon, rintCon, rboolCon, rtxtCon, rmICon, rmTCon]
theorem E60_ok : EnvOk Try.prog E60 := envOk zer_ok
set_option maxHeartbeats 4000000 in
theorem read_ec {σ : List AObj} {o p : Nat} {l : List Int} {e0 kind most lo hi : Int} (ho : σ[o]? = some (src l e0)) (hp : σ[p]? = some (rsrc l e0)) (hl : okL l) {k : AV → List AObj → Prop}
    (hk : k (.lit (.bool true)) ((σ.set o (src (stepS kind most lo hi l e0).1 (stepS kind most lo hi l e0).2)).set p (rsrc (stepS kind most lo hi l e0).1 (stepS kind most lo hi l e0).2))) :
    EC Try.prog 26 [.ref o 0, .ref p 0, .agg [.lit (.int .i64 kind), .lit (.int .i64 most), .lit (.int .i64 lo), .lit (.int .i64 hi)]] σ k := by
  refine ec_fin fun hbd => ?_
  have hne : o ≠ p := fun e => by subst e; rw [ho] at hp; cases hp
  have hs : ∀ {m q}, srcAt (σ ++ m) o q = q (σ ++ m) l e0 := srcAt_src (get_app_of ho _)
  have hr : ∀ {r e m q}, rsrcAt (σ.set o (src r e) ++ m) p q = q (σ.set o (src r e) ++ m) l e0 := rsrcAt_src (lk_n hp hne _ _)
  have h2 : ∀ (x y : AObj) (m : List AObj), (σ.set o x ++ m).set p y = (σ.set o x).set p y ++ m := fun x y m => set_app_of (lk_n0 hp hne x) m y
  have h3 : ∀ (x y : AObj) (m : List AObj), ((σ.set o x).set p y ++ m).take σ.length = (σ.set o x).set p y := fun x y m => takeA (by simp)
  have q1 : ∀ (x : AObj) (m : List AObj), Kp (fun i => i == σ.length) (σ ++ m) (σ.set o x ++ m) := fun x m => kp_one (by rw [getA0 rfl, getA0 (by simp)])
  have q2 : ∀ (x y : AObj) (m : List AObj), Kp (fun i => i == σ.length) (σ.set o x ++ m) ((σ.set o x).set p y ++ m) := fun x y m => kp_one (by rw [getA0 (by simp), getA0 (by simp)])
  unfold stepS at hk
  by_cases k0 : kind = 0
  · rw [if_pos k0] at hk
    subst k0
    refine ec_of E60_ok mixed (fun _ => [0, 1, 2, 5, 6, 8, 9, 24, 31, 42]) Try.func26 rfl (by kernel_rfl) (Nat.le_of_ble_eq_true rfl) ?_
    simp only [initF_cons, initF_nil, Nat.reduceAdd]
    refine t_name fun KF => ?_
    unfold E60
    repeat' (first
      | with_reducible refine t_seq fun K => ?_
      | with_reducible refine t_block ?_
      | with_reducible refine t_scope ?_
      | with_reducible refine t_label ?_
      | with_reducible refine t_skip ?_
      | with_reducible refine t_exit ?_
      | with_reducible refine t_ret ?_
      | with_reducible refine t_k ?_
      | (with_reducible refine t_gF ?_)
      | ((first | with_reducible refine t_kE ?_ | with_reducible refine t_kD ?_ | with_reducible refine t_gS ?_ | with_reducible refine t_kL ?_ | (with_reducible refine t_kLE ?_ ?_; rotate_left) | with_reducible refine t_region fun K => ?_ | with_reducible refine t_drawE (id := 3) (fun i => i == σ.length) [(0, true), (1, true), (2, true), (3, true), (4, true), (6, true), (7, true), (8, true), (9, true), (10, true), (5, false), (11, false), (12, true), (13, true)] (by kernel_rfl) fun K => ?_ | with_reducible refine t_drawE (id := 7) (fun i => i == σ.length) [(0, true), (1, true), (2, true), (4, true), (5, true), (6, true), (3, false), (7, false), (8, true), (9, true)] (by kernel_rfl) fun K => ?_ | with_reducible refine t_drawE (id := 9) (fun i => i == σ.length) [(0, true), (1, true), (2, true), (3, true), (4, true), (5, true), (6, true), (8, true), (9, true), (10, true), (11, true), (12, true), (13, true), (14, true), (7, false), (15, false), (16, false), (17, true)] (by kernel_rfl) fun K => ?_ | with_reducible refine t_drawE (id := 10) (fun i => i == σ.length) [(0, true), (1, true), (2, true), (3, true), (4, true), (6, true), (7, true), (8, true), (9, true), (10, true), (5, false), (11, false), (12, false), (13, true)] (by kernel_rfl) fun K => ?_ | with_reducible refine t_draw (by kernel_rfl) fun K => ?_); simp only [go_sem, Int.cast_ofNat_Int, Nat.reduceEqDiff, reduceIte, Nat.reduceAdd, Nat.reduceMul, Nat.reduceLeDiff, Nat.reduceSub, Nat.reduceLT, Nat.zero_lt_succ, Int.reduceToNat, Int.reduceAdd, Int.reduceSub, Int.reduceMul, Int.reduceNeg, Int.reduceLT, Int.reduceLE, Int.reduceEq, Int.reduceBEq, Int.reduceBNe, Nat.reduceBEq, List.reduceReplicate, getA0 rfl, hs, hr, h2, set_app_of ho, hl, slK_sl, slS_sl, eqS_refl, beq_self_eq_true, decide_true, beq_iff_eq, Nat.beq_eq, srcintCon_f, srcintCon_c, methBCon_f, methBCon_c, methWCon_f, methWCon_c, methICon_f, methICon_c, methTCon_f, methTCon_c, rintCon_f, rintCon_c, rboolCon_f, rboolCon_c, rtxtCon_f, rtxtCon_c, rmICon_f, rmICon_c, rmTCon_f, rmTCon_c, sameICon_f, sameICon_c, sameTCon_f, sameTCon_c])
      | (with_reducible exact kp_nil)
      | (with_reducible exact Kp.refl _)
      | (with_reducible exact kp_to)
      | (with_reducible refine kp_cons ?_)
      | (with_reducible refine kp_arr ?_)
      | (with_reducible refine kp_app ?_)
      | ((with_reducible refine t_cond fun A B => ?_); simp only [go_sem, Int.cast_ofNat_Int, Nat.reduceEqDiff, reduceIte, Nat.reduceAdd, Nat.reduceMul, Nat.reduceLeDiff, Nat.reduceSub, Nat.reduceLT, Nat.zero_lt_succ, Int.reduceToNat, Int.reduceAdd, Int.reduceSub, Int.reduceMul, Int.reduceNeg, Int.reduceLT, Int.reduceLE, Int.reduceEq, Int.reduceBEq, Int.reduceBNe, Nat.reduceBEq, List.reduceReplicate, getA0 rfl, hs, hr, h2, set_app_of ho, hl, slK_sl, slS_sl, eqS_refl, beq_self_eq_true, decide_true, beq_iff_eq, Nat.beq_eq, srcintCon_f, srcintCon_c, methBCon_f, methBCon_c, methWCon_f, methWCon_c, methICon_f, methICon_c, methTCon_f, methTCon_c, rintCon_f, rintCon_c, rboolCon_f, rboolCon_c, rtxtCon_f, rtxtCon_c, rmICon_f, rmICon_c, rmTCon_f, rmTCon_c, sameICon_f, sameICon_c, sameTCon_f, sameTCon_c]; first | (with_reducible refine A.h ?_) | (with_reducible refine B.h ?_) | refine And.intro (fun hc => A.h ?_) (fun hc => B.h ?_))
      | simp only [thenQ_n, thenQ_r, thenQ_e, blockQ_n, blockQ_r, blockQ_e, scopeQ_n, scopeQ_r, scopeQ_e, Nat.reduceEqDiff, reduceIte]
      | (with_reducible refine And.intro ?_ ?_)
      | with_reducible intro vr)
    all_goals try first | exact q1 _ _ | exact q2 _ _ _
    all_goals try (intros; (try simp only [Bool.and_eq_true, Bool.or_eq_true, Bool.not_eq_true', decide_eq_true_eq, decide_eq_false_iff_not, beq_iff_eq, bne_iff_ne, ne_eq, inI64, List.length_append] at *) <;> omega)
    refine end_ret rfl ?_
    simp only [finE, go_sem, Int.cast_ofNat_Int, Nat.reduceEqDiff, reduceIte, Nat.reduceAdd, Nat.reduceMul, Nat.reduceLeDiff, Nat.reduceSub, Nat.reduceLT, Nat.zero_lt_succ, Int.reduceToNat, Int.reduceAdd, Int.reduceSub, Int.reduceMul, Int.reduceNeg, Int.reduceLT, Int.reduceLE, Int.reduceEq, Int.reduceBEq, Int.reduceBNe, Nat.reduceBEq, List.reduceReplicate, h3]
    exact ⟨_, _, rfl, LeA.refl _, bds_two hbd _ _ _ _ _ _, hk⟩
  have z0 : (kind == 0) = false := by rw [beq_eq_false_iff_ne]; exact k0
  by_cases k1 : kind = 1
  · rw [if_neg k0] at hk
    rw [if_pos k1] at hk
    subst k1
    refine ec_of E60_ok mixed (fun _ => [0, 1, 2, 5, 6, 8, 9, 24, 31, 42]) Try.func26 rfl (by kernel_rfl) (Nat.le_of_ble_eq_true rfl) ?_
    simp only [initF_cons, initF_nil, Nat.reduceAdd]
    refine t_name fun KF => ?_
    unfold E60
    repeat' (first
      | with_reducible refine t_seq fun K => ?_
      | with_reducible refine t_block ?_
      | with_reducible refine t_scope ?_
      | with_reducible refine t_label ?_
      | with_reducible refine t_skip ?_
      | with_reducible refine t_exit ?_
      | with_reducible refine t_ret ?_
      | with_reducible refine t_k ?_
      | (with_reducible refine t_gF ?_)
      | ((first | with_reducible refine t_kE ?_ | with_reducible refine t_kD ?_ | with_reducible refine t_gS ?_ | with_reducible refine t_kL ?_ | (with_reducible refine t_kLE ?_ ?_; rotate_left) | with_reducible refine t_region fun K => ?_ | with_reducible refine t_drawE (id := 3) (fun i => i == σ.length) [(0, true), (1, true), (2, true), (3, true), (4, true), (6, true), (7, true), (8, true), (9, true), (10, true), (5, false), (11, false), (12, true), (13, true)] (by kernel_rfl) fun K => ?_ | with_reducible refine t_drawE (id := 7) (fun i => i == σ.length) [(0, true), (1, true), (2, true), (4, true), (5, true), (6, true), (3, false), (7, false), (8, true), (9, true)] (by kernel_rfl) fun K => ?_ | with_reducible refine t_drawE (id := 9) (fun i => i == σ.length) [(0, true), (1, true), (2, true), (3, true), (4, true), (5, true), (6, true), (8, true), (9, true), (10, true), (11, true), (12, true), (13, true), (14, true), (7, false), (15, false), (16, false), (17, true)] (by kernel_rfl) fun K => ?_ | with_reducible refine t_drawE (id := 10) (fun i => i == σ.length) [(0, true), (1, true), (2, true), (3, true), (4, true), (6, true), (7, true), (8, true), (9, true), (10, true), (5, false), (11, false), (12, false), (13, true)] (by kernel_rfl) fun K => ?_ | with_reducible refine t_draw (by kernel_rfl) fun K => ?_); simp only [go_sem, Int.cast_ofNat_Int, Nat.reduceEqDiff, reduceIte, Nat.reduceAdd, Nat.reduceMul, Nat.reduceLeDiff, Nat.reduceSub, Nat.reduceLT, Nat.zero_lt_succ, Int.reduceToNat, Int.reduceAdd, Int.reduceSub, Int.reduceMul, Int.reduceNeg, Int.reduceLT, Int.reduceLE, Int.reduceEq, Int.reduceBEq, Int.reduceBNe, Nat.reduceBEq, List.reduceReplicate, getA0 rfl, hs, hr, h2, set_app_of ho, hl, slK_sl, slS_sl, eqS_refl, beq_self_eq_true, decide_true, beq_iff_eq, Nat.beq_eq, srcintCon_f, srcintCon_c, methBCon_f, methBCon_c, methWCon_f, methWCon_c, methICon_f, methICon_c, methTCon_f, methTCon_c, rintCon_f, rintCon_c, rboolCon_f, rboolCon_c, rtxtCon_f, rtxtCon_c, rmICon_f, rmICon_c, rmTCon_f, rmTCon_c, sameICon_f, sameICon_c, sameTCon_f, sameTCon_c])
      | (with_reducible exact kp_nil)
      | (with_reducible exact Kp.refl _)
      | (with_reducible exact kp_to)
      | (with_reducible refine kp_cons ?_)
      | (with_reducible refine kp_arr ?_)
      | (with_reducible refine kp_app ?_)
      | ((with_reducible refine t_cond fun A B => ?_); simp only [go_sem, Int.cast_ofNat_Int, Nat.reduceEqDiff, reduceIte, Nat.reduceAdd, Nat.reduceMul, Nat.reduceLeDiff, Nat.reduceSub, Nat.reduceLT, Nat.zero_lt_succ, Int.reduceToNat, Int.reduceAdd, Int.reduceSub, Int.reduceMul, Int.reduceNeg, Int.reduceLT, Int.reduceLE, Int.reduceEq, Int.reduceBEq, Int.reduceBNe, Nat.reduceBEq, List.reduceReplicate, getA0 rfl, hs, hr, h2, set_app_of ho, hl, slK_sl, slS_sl, eqS_refl, beq_self_eq_true, decide_true, beq_iff_eq, Nat.beq_eq, srcintCon_f, srcintCon_c, methBCon_f, methBCon_c, methWCon_f, methWCon_c, methICon_f, methICon_c, methTCon_f, methTCon_c, rintCon_f, rintCon_c, rboolCon_f, rboolCon_c, rtxtCon_f, rtxtCon_c, rmICon_f, rmICon_c, rmTCon_f, rmTCon_c, sameICon_f, sameICon_c, sameTCon_f, sameTCon_c]; first | (with_reducible refine A.h ?_) | (with_reducible refine B.h ?_) | refine And.intro (fun hc => A.h ?_) (fun hc => B.h ?_))
      | simp only [thenQ_n, thenQ_r, thenQ_e, blockQ_n, blockQ_r, blockQ_e, scopeQ_n, scopeQ_r, scopeQ_e, Nat.reduceEqDiff, reduceIte]
      | (with_reducible refine And.intro ?_ ?_)
      | with_reducible intro vr)
    all_goals try first | exact q1 _ _ | exact q2 _ _ _
    all_goals try (intros; (try simp only [Bool.and_eq_true, Bool.or_eq_true, Bool.not_eq_true', decide_eq_true_eq, decide_eq_false_iff_not, beq_iff_eq, bne_iff_ne, ne_eq, inI64, List.length_append] at *) <;> omega)
    refine end_ret rfl ?_
    simp only [finE, go_sem, Int.cast_ofNat_Int, Nat.reduceEqDiff, reduceIte, Nat.reduceAdd, Nat.reduceMul, Nat.reduceLeDiff, Nat.reduceSub, Nat.reduceLT, Nat.zero_lt_succ, Int.reduceToNat, Int.reduceAdd, Int.reduceSub, Int.reduceMul, Int.reduceNeg, Int.reduceLT, Int.reduceLE, Int.reduceEq, Int.reduceBEq, Int.reduceBNe, Nat.reduceBEq, List.reduceReplicate, h3]
    exact ⟨_, _, rfl, LeA.refl _, bds_two hbd _ _ _ _ _ _, hk⟩
  have z1 : (kind == 1) = false := by rw [beq_eq_false_iff_ne]; exact k1
  by_cases k2 : kind = 2
  · rw [if_neg k0] at hk
    rw [if_neg k1] at hk
    rw [if_pos k2] at hk
    subst k2
    refine ec_of E60_ok mixed (fun _ => [0, 1, 2, 5, 6, 8, 9, 24, 31, 42]) Try.func26 rfl (by kernel_rfl) (Nat.le_of_ble_eq_true rfl) ?_
    simp only [initF_cons, initF_nil, Nat.reduceAdd]
    refine t_name fun KF => ?_
    unfold E60
    repeat' (first
      | with_reducible refine t_seq fun K => ?_
      | with_reducible refine t_block ?_
      | with_reducible refine t_scope ?_
      | with_reducible refine t_label ?_
      | with_reducible refine t_skip ?_
      | with_reducible refine t_exit ?_
      | with_reducible refine t_ret ?_
      | with_reducible refine t_k ?_
      | (with_reducible refine t_gF ?_)
      | ((first | with_reducible refine t_kE ?_ | with_reducible refine t_kD ?_ | with_reducible refine t_gS ?_ | with_reducible refine t_kL ?_ | (with_reducible refine t_kLE ?_ ?_; rotate_left) | with_reducible refine t_region fun K => ?_ | with_reducible refine t_drawE (id := 3) (fun i => i == σ.length) [(0, true), (1, true), (2, true), (3, true), (4, true), (6, true), (7, true), (8, true), (9, true), (10, true), (5, false), (11, false), (12, true), (13, true)] (by kernel_rfl) fun K => ?_ | with_reducible refine t_drawE (id := 7) (fun i => i == σ.length) [(0, true), (1, true), (2, true), (4, true), (5, true), (6, true), (3, false), (7, false), (8, true), (9, true)] (by kernel_rfl) fun K => ?_ | with_reducible refine t_drawE (id := 9) (fun i => i == σ.length) [(0, true), (1, true), (2, true), (3, true), (4, true), (5, true), (6, true), (8, true), (9, true), (10, true), (11, true), (12, true), (13, true), (14, true), (7, false), (15, false), (16, false), (17, true)] (by kernel_rfl) fun K => ?_ | with_reducible refine t_drawE (id := 10) (fun i => i == σ.length) [(0, true), (1, true), (2, true), (3, true), (4, true), (6, true), (7, true), (8, true), (9, true), (10, true), (5, false), (11, false), (12, false), (13, true)] (by kernel_rfl) fun K => ?_ | with_reducible refine t_draw (by kernel_rfl) fun K => ?_); simp only [go_sem, Int.cast_ofNat_Int, Nat.reduceEqDiff, reduceIte, Nat.reduceAdd, Nat.reduceMul, Nat.reduceLeDiff, Nat.reduceSub, Nat.reduceLT, Nat.zero_lt_succ, Int.reduceToNat, Int.reduceAdd, Int.reduceSub, Int.reduceMul, Int.reduceNeg, Int.reduceLT, Int.reduceLE, Int.reduceEq, Int.reduceBEq, Int.reduceBNe, Nat.reduceBEq, List.reduceReplicate, getA0 rfl, hs, hr, h2, set_app_of ho, hl, slK_sl, slS_sl, eqS_refl, beq_self_eq_true, decide_true, beq_iff_eq, Nat.beq_eq, srcintCon_f, srcintCon_c, methBCon_f, methBCon_c, methWCon_f, methWCon_c, methICon_f, methICon_c, methTCon_f, methTCon_c, rintCon_f, rintCon_c, rboolCon_f, rboolCon_c, rtxtCon_f, rtxtCon_c, rmICon_f, rmICon_c, rmTCon_f, rmTCon_c, sameICon_f, sameICon_c, sameTCon_f, sameTCon_c])
      | (with_reducible exact kp_nil)
      | (with_reducible exact Kp.refl _)
      | (with_reducible exact kp_to)
      | (with_reducible refine kp_cons ?_)
      | (with_reducible refine kp_arr ?_)
      | (with_reducible refine kp_app ?_)
      | ((with_reducible refine t_cond fun A B => ?_); simp only [go_sem, Int.cast_ofNat_Int, Nat.reduceEqDiff, reduceIte, Nat.reduceAdd, Nat.reduceMul, Nat.reduceLeDiff, Nat.reduceSub, Nat.reduceLT, Nat.zero_lt_succ, Int.reduceToNat, Int.reduceAdd, Int.reduceSub, Int.reduceMul, Int.reduceNeg, Int.reduceLT, Int.reduceLE, Int.reduceEq, Int.reduceBEq, Int.reduceBNe, Nat.reduceBEq, List.reduceReplicate, getA0 rfl, hs, hr, h2, set_app_of ho, hl, slK_sl, slS_sl, eqS_refl, beq_self_eq_true, decide_true, beq_iff_eq, Nat.beq_eq, srcintCon_f, srcintCon_c, methBCon_f, methBCon_c, methWCon_f, methWCon_c, methICon_f, methICon_c, methTCon_f, methTCon_c, rintCon_f, rintCon_c, rboolCon_f, rboolCon_c, rtxtCon_f, rtxtCon_c, rmICon_f, rmICon_c, rmTCon_f, rmTCon_c, sameICon_f, sameICon_c, sameTCon_f, sameTCon_c]; first | (with_reducible refine A.h ?_) | (with_reducible refine B.h ?_) | refine And.intro (fun hc => A.h ?_) (fun hc => B.h ?_))
      | simp only [thenQ_n, thenQ_r, thenQ_e, blockQ_n, blockQ_r, blockQ_e, scopeQ_n, scopeQ_r, scopeQ_e, Nat.reduceEqDiff, reduceIte]
      | (with_reducible refine And.intro ?_ ?_)
      | with_reducible intro vr)
    all_goals try first | exact q1 _ _ | exact q2 _ _ _
    all_goals try (intros; (try simp only [Bool.and_eq_true, Bool.or_eq_true, Bool.not_eq_true', decide_eq_true_eq, decide_eq_false_iff_not, beq_iff_eq, bne_iff_ne, ne_eq, inI64, List.length_append] at *) <;> omega)
    refine end_ret rfl ?_
    simp only [finE, go_sem, Int.cast_ofNat_Int, Nat.reduceEqDiff, reduceIte, Nat.reduceAdd, Nat.reduceMul, Nat.reduceLeDiff, Nat.reduceSub, Nat.reduceLT, Nat.zero_lt_succ, Int.reduceToNat, Int.reduceAdd, Int.reduceSub, Int.reduceMul, Int.reduceNeg, Int.reduceLT, Int.reduceLE, Int.reduceEq, Int.reduceBEq, Int.reduceBNe, Nat.reduceBEq, List.reduceReplicate, h3]
    exact ⟨_, _, rfl, LeA.refl _, bds_two hbd _ _ _ _ _ _, hk⟩
  have z2 : (kind == 2) = false := by rw [beq_eq_false_iff_ne]; exact k2
  by_cases k3 : kind = 3
  · rw [if_neg k0] at hk
    rw [if_neg k1] at hk
    rw [if_neg k2] at hk
    rw [if_pos k3] at hk
    subst k3
    refine ec_of E60_ok mixed (fun _ => [0, 1, 2, 5, 6, 8, 9, 24, 31, 42]) Try.func26 rfl (by kernel_rfl) (Nat.le_of_ble_eq_true rfl) ?_
    simp only [initF_cons, initF_nil, Nat.reduceAdd]
    refine t_name fun KF => ?_
    unfold E60
    repeat' (first
      | with_reducible refine t_seq fun K => ?_
      | with_reducible refine t_block ?_
      | with_reducible refine t_scope ?_
      | with_reducible refine t_label ?_
      | with_reducible refine t_skip ?_
      | with_reducible refine t_exit ?_
      | with_reducible refine t_ret ?_
      | with_reducible refine t_k ?_
      | (with_reducible refine t_gF ?_)
      | ((first | with_reducible refine t_kE ?_ | with_reducible refine t_kD ?_ | with_reducible refine t_gS ?_ | with_reducible refine t_kL ?_ | (with_reducible refine t_kLE ?_ ?_; rotate_left) | with_reducible refine t_region fun K => ?_ | with_reducible refine t_drawE (id := 3) (fun i => i == σ.length) [(0, true), (1, true), (2, true), (3, true), (4, true), (6, true), (7, true), (8, true), (9, true), (10, true), (5, false), (11, false), (12, true), (13, true)] (by kernel_rfl) fun K => ?_ | with_reducible refine t_drawE (id := 7) (fun i => i == σ.length) [(0, true), (1, true), (2, true), (4, true), (5, true), (6, true), (3, false), (7, false), (8, true), (9, true)] (by kernel_rfl) fun K => ?_ | with_reducible refine t_drawE (id := 9) (fun i => i == σ.length) [(0, true), (1, true), (2, true), (3, true), (4, true), (5, true), (6, true), (8, true), (9, true), (10, true), (11, true), (12, true), (13, true), (14, true), (7, false), (15, false), (16, false), (17, true)] (by kernel_rfl) fun K => ?_ | with_reducible refine t_drawE (id := 10) (fun i => i == σ.length) [(0, true), (1, true), (2, true), (3, true), (4, true), (6, true), (7, true), (8, true), (9, true), (10, true), (5, false), (11, false), (12, false), (13, true)] (by kernel_rfl) fun K => ?_ | with_reducible refine t_draw (by kernel_rfl) fun K => ?_); simp only [go_sem, Int.cast_ofNat_Int, Nat.reduceEqDiff, reduceIte, Nat.reduceAdd, Nat.reduceMul, Nat.reduceLeDiff, Nat.reduceSub, Nat.reduceLT, Nat.zero_lt_succ, Int.reduceToNat, Int.reduceAdd, Int.reduceSub, Int.reduceMul, Int.reduceNeg, Int.reduceLT, Int.reduceLE, Int.reduceEq, Int.reduceBEq, Int.reduceBNe, Nat.reduceBEq, List.reduceReplicate, getA0 rfl, hs, hr, h2, set_app_of ho, hl, slK_sl, slS_sl, eqS_refl, beq_self_eq_true, decide_true, beq_iff_eq, Nat.beq_eq, srcintCon_f, srcintCon_c, methBCon_f, methBCon_c, methWCon_f, methWCon_c, methICon_f, methICon_c, methTCon_f, methTCon_c, rintCon_f, rintCon_c, rboolCon_f, rboolCon_c, rtxtCon_f, rtxtCon_c, rmICon_f, rmICon_c, rmTCon_f, rmTCon_c, sameICon_f, sameICon_c, sameTCon_f, sameTCon_c])
      | (with_reducible exact kp_nil)
      | (with_reducible exact Kp.refl _)
      | (with_reducible exact kp_to)
      | (with_reducible refine kp_cons ?_)
      | (with_reducible refine kp_arr ?_)
      | (with_reducible refine kp_app ?_)
      | ((with_reducible refine t_cond fun A B => ?_); simp only [go_sem, Int.cast_ofNat_Int, Nat.reduceEqDiff, reduceIte, Nat.reduceAdd, Nat.reduceMul, Nat.reduceLeDiff, Nat.reduceSub, Nat.reduceLT, Nat.zero_lt_succ, Int.reduceToNat, Int.reduceAdd, Int.reduceSub, Int.reduceMul, Int.reduceNeg, Int.reduceLT, Int.reduceLE, Int.reduceEq, Int.reduceBEq, Int.reduceBNe, Nat.reduceBEq, List.reduceReplicate, getA0 rfl, hs, hr, h2, set_app_of ho, hl, slK_sl, slS_sl, eqS_refl, beq_self_eq_true, decide_true, beq_iff_eq, Nat.beq_eq, srcintCon_f, srcintCon_c, methBCon_f, methBCon_c, methWCon_f, methWCon_c, methICon_f, methICon_c, methTCon_f, methTCon_c, rintCon_f, rintCon_c, rboolCon_f, rboolCon_c, rtxtCon_f, rtxtCon_c, rmICon_f, rmICon_c, rmTCon_f, rmTCon_c, sameICon_f, sameICon_c, sameTCon_f, sameTCon_c]; first | (with_reducible refine A.h ?_) | (with_reducible refine B.h ?_) | refine And.intro (fun hc => A.h ?_) (fun hc => B.h ?_))
      | simp only [thenQ_n, thenQ_r, thenQ_e, blockQ_n, blockQ_r, blockQ_e, scopeQ_n, scopeQ_r, scopeQ_e, Nat.reduceEqDiff, reduceIte]
      | (with_reducible refine And.intro ?_ ?_)
      | with_reducible intro vr)
    all_goals try first | exact q1 _ _ | exact q2 _ _ _
    all_goals try (intros; (try simp only [Bool.and_eq_true, Bool.or_eq_true, Bool.not_eq_true', decide_eq_true_eq, decide_eq_false_iff_not, beq_iff_eq, bne_iff_ne, ne_eq, inI64, List.length_append] at *) <;> omega)
    refine end_ret rfl ?_
    simp only [finE, go_sem, Int.cast_ofNat_Int, Nat.reduceEqDiff, reduceIte, Nat.reduceAdd, Nat.reduceMul, Nat.reduceLeDiff, Nat.reduceSub, Nat.reduceLT, Nat.zero_lt_succ, Int.reduceToNat, Int.reduceAdd, Int.reduceSub, Int.reduceMul, Int.reduceNeg, Int.reduceLT, Int.reduceLE, Int.reduceEq, Int.reduceBEq, Int.reduceBNe, Nat.reduceBEq, List.reduceReplicate, h3]
    exact ⟨_, _, rfl, LeA.refl _, bds_two hbd _ _ _ _ _ _, hk⟩
  have z3 : (kind == 3) = false := by rw [beq_eq_false_iff_ne]; exact k3
  rw [if_neg k0, if_neg k1, if_neg k2, if_neg k3] at hk
  refine ec_of E60_ok mixed (fun _ => [0, 1, 2, 5, 6, 8, 9, 24, 31, 42]) Try.func26 rfl (by kernel_rfl) (Nat.le_of_ble_eq_true rfl) ?_
  simp only [initF_cons, initF_nil, Nat.reduceAdd]
  refine t_name fun KF => ?_
  unfold E60
  repeat' (first
    | with_reducible refine t_seq fun K => ?_
    | with_reducible refine t_block ?_
    | with_reducible refine t_scope ?_
    | with_reducible refine t_label ?_
    | with_reducible refine t_skip ?_
    | with_reducible refine t_exit ?_
    | with_reducible refine t_ret ?_
    | with_reducible refine t_k ?_
    | (with_reducible refine t_gF ?_)
    | ((first | with_reducible refine t_kE ?_ | with_reducible refine t_kD ?_ | with_reducible refine t_gS ?_ | with_reducible refine t_kL ?_ | (with_reducible refine t_kLE ?_ ?_; rotate_left) | with_reducible refine t_region fun K => ?_ | with_reducible refine t_drawE (id := 3) (fun i => i == σ.length) [(0, true), (1, true), (2, true), (3, true), (4, true), (6, true), (7, true), (8, true), (9, true), (10, true), (5, false), (11, false), (12, true), (13, true)] (by kernel_rfl) fun K => ?_ | with_reducible refine t_drawE (id := 7) (fun i => i == σ.length) [(0, true), (1, true), (2, true), (4, true), (5, true), (6, true), (3, false), (7, false), (8, true), (9, true)] (by kernel_rfl) fun K => ?_ | with_reducible refine t_drawE (id := 9) (fun i => i == σ.length) [(0, true), (1, true), (2, true), (3, true), (4, true), (5, true), (6, true), (8, true), (9, true), (10, true), (11, true), (12, true), (13, true), (14, true), (7, false), (15, false), (16, false), (17, true)] (by kernel_rfl) fun K => ?_ | with_reducible refine t_drawE (id := 10) (fun i => i == σ.length) [(0, true), (1, true), (2, true), (3, true), (4, true), (6, true), (7, true), (8, true), (9, true), (10, true), (5, false), (11, false), (12, false), (13, true)] (by kernel_rfl) fun K => ?_ | with_reducible refine t_draw (by kernel_rfl) fun K => ?_); simp only [go_sem, Int.cast_ofNat_Int, Nat.reduceEqDiff, reduceIte, Nat.reduceAdd, Nat.reduceMul, Nat.reduceLeDiff, Nat.reduceSub, Nat.reduceLT, Nat.zero_lt_succ, Int.reduceToNat, Int.reduceAdd, Int.reduceSub, Int.reduceMul, Int.reduceNeg, Int.reduceLT, Int.reduceLE, Int.reduceEq, Int.reduceBEq, Int.reduceBNe, Nat.reduceBEq, List.reduceReplicate, getA0 rfl, hs, hr, h2, set_app_of ho, hl, slK_sl, slS_sl, eqS_refl, beq_self_eq_true, decide_true, z0, z1, z2, z3, srcintCon_f, srcintCon_c, methBCon_f, methBCon_c, methWCon_f, methWCon_c, methICon_f, methICon_c, methTCon_f, methTCon_c, rintCon_f, rintCon_c, rboolCon_f, rboolCon_c, rtxtCon_f, rtxtCon_c, rmICon_f, rmICon_c, rmTCon_f, rmTCon_c, sameICon_f, sameICon_c, sameTCon_f, sameTCon_c])
    | (with_reducible exact kp_nil)
    | (with_reducible exact Kp.refl _)
    | (with_reducible exact kp_to)
    | (with_reducible refine kp_cons ?_)
    | (with_reducible refine kp_arr ?_)
    | (with_reducible refine kp_app ?_)
    | ((with_reducible refine t_cond fun A B => ?_); simp only [go_sem, Int.cast_ofNat_Int, Nat.reduceEqDiff, reduceIte, Nat.reduceAdd, Nat.reduceMul, Nat.reduceLeDiff, Nat.reduceSub, Nat.reduceLT, Nat.zero_lt_succ, Int.reduceToNat, Int.reduceAdd, Int.reduceSub, Int.reduceMul, Int.reduceNeg, Int.reduceLT, Int.reduceLE, Int.reduceEq, Int.reduceBEq, Int.reduceBNe, Nat.reduceBEq, List.reduceReplicate, getA0 rfl, hs, hr, h2, set_app_of ho, hl, slK_sl, slS_sl, eqS_refl, beq_self_eq_true, decide_true, z0, z1, z2, z3, srcintCon_f, srcintCon_c, methBCon_f, methBCon_c, methWCon_f, methWCon_c, methICon_f, methICon_c, methTCon_f, methTCon_c, rintCon_f, rintCon_c, rboolCon_f, rboolCon_c, rtxtCon_f, rtxtCon_c, rmICon_f, rmICon_c, rmTCon_f, rmTCon_c, sameICon_f, sameICon_c, sameTCon_f, sameTCon_c]; first | (with_reducible refine A.h ?_) | (with_reducible refine B.h ?_) | refine And.intro (fun hc => A.h ?_) (fun hc => B.h ?_))
    | simp only [thenQ_n, thenQ_r, thenQ_e, blockQ_n, blockQ_r, blockQ_e, scopeQ_n, scopeQ_r, scopeQ_e, Nat.reduceEqDiff, reduceIte]
    | (with_reducible refine And.intro ?_ ?_)
    | with_reducible intro vr)
  all_goals try first | exact q1 _ _ | exact q2 _ _ _
  all_goals try (intros; (try simp only [Bool.and_eq_true, Bool.or_eq_true, Bool.not_eq_true', decide_eq_true_eq, decide_eq_false_iff_not, beq_iff_eq, bne_iff_ne, ne_eq, inI64, List.length_append] at *) <;> omega)
  refine end_ret rfl ?_
  simp only [finE, go_sem, Int.cast_ofNat_Int, Nat.reduceEqDiff, reduceIte, Nat.reduceAdd, Nat.reduceMul, Nat.reduceLeDiff, Nat.reduceSub, Nat.reduceLT, Nat.zero_lt_succ, Int.reduceToNat, Int.reduceAdd, Int.reduceSub, Int.reduceMul, Int.reduceNeg, Int.reduceLT, Int.reduceLE, Int.reduceEq, Int.reduceBEq, Int.reduceBNe, Nat.reduceBEq, List.reduceReplicate, h3]
  exact ⟨_, _, rfl, LeA.refl _, bds_two hbd _ _ _ _ _ _, hk⟩
noncomputable def E61 : Env := envOf (P := Try.prog) zer (fun _ => false) (fun _ => false) [con12] []
theorem E61_ok : EnvOk Try.prog E61 := envOk zer_ok
noncomputable def readCon : ECon Try.prog where
  f := 26
  c := fun args σ k => match args with
    | [.ref o 0, .ref p 0, .agg [.lit (.int .i64 kind), .lit (.int .i64 most), .lit (.int .i64 lo), .lit (.int .i64 hi)]] =>
      srcAt σ o fun σ1 l e0 => rsrcAt σ1 p fun σ2 l' e0' => (σ2[o]? = some (src l e0) ∧ l' = l ∧ e0' = e0 ∧ okL l) ∧
        k (.lit (.bool true)) ((σ2.set o (src (stepS kind most lo hi l e0).1 (stepS kind most lo hi l e0).2)).set p (rsrc (stepS kind most lo hi l e0).1 (stepS kind most lo hi l e0).2))
    | _ => False
  ok := by
    intro args σ k h
    split at h
    · obtain ⟨σ1, l, e0, h1, h2, h3⟩ := srcAt_inv h
      obtain ⟨σ2, l', e0', h4, h5, ⟨h6, rfl, rfl, h7⟩, h8⟩ := rsrcAt_inv h3
      exact EC.clB h1 (EC.clB h4 (read_ec h6 h5 h7 h8))
    · exact h.elim
  fk := fk26
theorem readCon_f : readCon.f = 26 := rfl
theorem readCon_c {σ : List AObj} {k : AV → List AObj → Prop} {o p : Nat} {kind most lo hi : Int} : readCon.c [.ref o 0, .ref p 0, .agg [.lit (.int .i64 kind), .lit (.int .i64 most), .lit (.int .i64 lo), .lit (.int .i64 hi)]] σ k =
      srcAt σ o fun σ1 l e0 => rsrcAt σ1 p fun σ2 l' e0' => (σ2[o]? = some (src l e0) ∧ l' = l ∧ e0' = e0 ∧ okL l) ∧
        k (.lit (.bool true)) ((σ2.set o (src (stepS kind most lo hi l e0).1 (stepS kind most lo hi l e0).2)).set p (rsrc (stepS kind most lo hi l e0).1 (stepS kind most lo hi l e0).2)) := rfl
theorem LeA.agg' {xs ys : List AV} (h : LeL xs ys) (hl : ys.length = xs.length) : LeA (.agg xs) (.agg ys) := fun C v hv => by
  cases hv with
  | agg _ vs hl' h1 hh => exact .agg ys vs (h.rl ⟨hl', hh⟩).1 (fun i hi => h1 i (by omega)) (h.rl ⟨hl', hh⟩).2
theorem same27_pc {l : List Int} {e : Int} : PC Try.prog 27 [.agg [.sl false 1 (ints .u8 l), .lit (.int .i64 e)], .agg [.sl false 1 (ints .u8 l), .lit (.int .i64 e)]] (.lit (.bool true)) := by
  refine pc_of E61_ok mixed (fun _ => [0, 1, 2, 3, 4]) Try.func27 rfl (by kernel_rfl) (Nat.le_of_ble_eq_true rfl) ?_
  simp only [initF_cons, initF_nil, Nat.reduceAdd]
  refine t_name fun KF => ?_
  unfold E61
  repeat' (first
    | with_reducible refine t_seq fun K => ?_
    | with_reducible refine t_block ?_
    | with_reducible refine t_scope ?_
    | with_reducible refine t_label ?_
    | with_reducible refine t_skip ?_
    | with_reducible refine t_exit ?_
    | with_reducible refine t_ret ?_
    | with_reducible refine t_k ?_
    | (with_reducible refine t_gF ?_)
    | ((first | with_reducible refine t_kE ?_ | with_reducible refine t_kD ?_ | with_reducible refine t_gS ?_ | with_reducible refine t_kL ?_ | (with_reducible refine t_kLE ?_ ?_; rotate_left) | with_reducible refine t_region fun K => ?_ | with_reducible refine t_drawE (id := 3) (fun i => i == σ.length) [(0, true), (1, true), (2, true), (3, true), (4, true), (6, true), (7, true), (8, true), (9, true), (10, true), (5, false), (11, false), (12, true), (13, true)] (by kernel_rfl) fun K => ?_ | with_reducible refine t_drawE (id := 7) (fun i => i == σ.length) [(0, true), (1, true), (2, true), (4, true), (5, true), (6, true), (3, false), (7, false), (8, true), (9, true)] (by kernel_rfl) fun K => ?_ | with_reducible refine t_drawE (id := 9) (fun i => i == σ.length) [(0, true), (1, true), (2, true), (3, true), (4, true), (5, true), (6, true), (8, true), (9, true), (10, true), (11, true), (12, true), (13, true), (14, true), (7, false), (15, false), (16, false), (17, true)] (by kernel_rfl) fun K => ?_ | with_reducible refine t_drawE (id := 10) (fun i => i == σ.length) [(0, true), (1, true), (2, true), (3, true), (4, true), (6, true), (7, true), (8, true), (9, true), (10, true), (5, false), (11, false), (12, false), (13, true)] (by kernel_rfl) fun K => ?_ | with_reducible refine t_draw (by kernel_rfl) fun K => ?_); simp only [go_sem, Int.cast_ofNat_Int, Nat.reduceEqDiff, reduceIte, Nat.reduceAdd, Nat.reduceMul, Nat.reduceLeDiff, Nat.reduceSub, Nat.reduceLT, Nat.zero_lt_succ, Int.reduceToNat, Int.reduceAdd, Int.reduceSub, Int.reduceMul, Int.reduceNeg, Int.reduceLT, Int.reduceLE, Int.reduceEq, Int.reduceBEq, Int.reduceBNe, Nat.reduceBEq, List.reduceReplicate, con12_f, con12_c, slK_sl, eqS_refl, beq_self_eq_true])
    | (with_reducible exact kp_nil)
    | (with_reducible exact Kp.refl _)
    | (with_reducible exact kp_to)
    | (with_reducible refine kp_cons ?_)
    | (with_reducible refine kp_arr ?_)
    | (with_reducible refine kp_app ?_)
    | ((with_reducible refine t_cond fun A B => ?_); simp only [go_sem, Int.cast_ofNat_Int, Nat.reduceEqDiff, reduceIte, Nat.reduceAdd, Nat.reduceMul, Nat.reduceLeDiff, Nat.reduceSub, Nat.reduceLT, Nat.zero_lt_succ, Int.reduceToNat, Int.reduceAdd, Int.reduceSub, Int.reduceMul, Int.reduceNeg, Int.reduceLT, Int.reduceLE, Int.reduceEq, Int.reduceBEq, Int.reduceBNe, Nat.reduceBEq, List.reduceReplicate, con12_f, con12_c, slK_sl, eqS_refl, beq_self_eq_true]; first | (with_reducible refine A.h ?_) | (with_reducible refine B.h ?_) | refine And.intro (fun hc => A.h ?_) (fun hc => B.h ?_))
    | simp only [thenQ_n, thenQ_r, thenQ_e, blockQ_n, blockQ_r, blockQ_e, scopeQ_n, scopeQ_r, scopeQ_e, Nat.reduceEqDiff, reduceIte]
    | (with_reducible refine And.intro ?_ ?_)
    | with_reducible intro vr)
  refine end_ret rfl ?_
  simp only [fin, go_sem, Int.cast_ofNat_Int, Nat.reduceEqDiff, reduceIte, Nat.reduceAdd, Nat.reduceMul, Nat.reduceLeDiff, Nat.reduceSub, Nat.reduceLT, Nat.zero_lt_succ, Int.reduceToNat, Int.reduceAdd, Int.reduceSub, Int.reduceMul, Int.reduceNeg, Int.reduceLT, Int.reduceLE, Int.reduceEq, Int.reduceBEq, Int.reduceBNe, Nat.reduceBEq, List.reduceReplicate, eqS_refl, beq_self_eq_true]
  exact LeA.refl _
noncomputable def same27Con : PCon Try.prog where
  f := 27
  c := fun
    | [.agg [x, .lit (.int .i64 e)], .agg [y, .lit (.int .i64 e')]] => match slK .u8 x, slK .u8 y with
      | some l, some m => some (l = m ∧ e = e', .lit (.bool true))
      | _, _ => none
    | _ => none
  ok := by
    intro args p r hc hp
    split at hc
    · split at hc
      · rename_i hx hy
        cases hc
        obtain ⟨rfl, rfl⟩ := hp
        exact PC.weak same27_pc ⟨LeA.agg' ⟨slK_le hx, LeA.refl _, trivial⟩ rfl, LeA.agg' ⟨slK_le hy, LeA.refl _, trivial⟩ rfl, trivial⟩
      · cases hc
    · cases hc
  fk := fk27
theorem same27Con_f : same27Con.f = 27 := rfl
theorem same27Con_c {x y : AV} {e e' : Int} : same27Con.c [.agg [x, .lit (.int .i64 e)], .agg [y, .lit (.int .i64 e')]] = match slK .u8 x, slK .u8 y with
      | some l, some m => some (l = m ∧ e = e', .lit (.bool true))
      | _, _ => none := rfl
theorem rend_ec {σ : List AObj} {o : Nat} {l : List Int} {e0 : Int} (ho : σ[o]? = some (rsrc l e0)) {k : AV → List AObj → Prop}
    (hk : k (.lit (.int .i64 (if e0 ≠ 0 then e0 else if l = [] then 0 else 4))) σ) : EC Try.prog 29 [.ref o 0] σ k := by
  unfold rsrc at ho
  by_cases h0 : e0 = 0
  · subst h0
    cases l with
    | nil =>
      refine ec_of E8_ok mixed (fun _ => [0, 2, 4, 9, 19]) Try.func29 rfl (by kernel_rfl) (Nat.le_of_ble_eq_true rfl) ?_
      simp only [initF_cons, initF_nil, Nat.reduceAdd]
      refine t_name fun KF => ?_
      unfold E8
      repeat' (first
        | with_reducible refine t_seq fun K => ?_
        | with_reducible refine t_block ?_
        | with_reducible refine t_scope ?_
        | with_reducible refine t_label ?_
        | with_reducible refine t_skip ?_
        | with_reducible refine t_exit ?_
        | with_reducible refine t_ret ?_
        | with_reducible refine t_k ?_
        | (with_reducible refine t_gF ?_)
        | ((first | with_reducible refine t_kE ?_ | with_reducible refine t_kD ?_ | with_reducible refine t_gS ?_ | with_reducible refine t_kL ?_ | (with_reducible refine t_kLE ?_ ?_; rotate_left) | with_reducible refine t_region fun K => ?_ | with_reducible refine t_drawE (id := 3) (fun i => i == σ.length) [(0, true), (1, true), (2, true), (3, true), (4, true), (6, true), (7, true), (8, true), (9, true), (10, true), (5, false), (11, false), (12, true), (13, true)] (by kernel_rfl) fun K => ?_ | with_reducible refine t_drawE (id := 7) (fun i => i == σ.length) [(0, true), (1, true), (2, true), (4, true), (5, true), (6, true), (3, false), (7, false), (8, true), (9, true)] (by kernel_rfl) fun K => ?_ | with_reducible refine t_drawE (id := 9) (fun i => i == σ.length) [(0, true), (1, true), (2, true), (3, true), (4, true), (5, true), (6, true), (8, true), (9, true), (10, true), (11, true), (12, true), (13, true), (14, true), (7, false), (15, false), (16, false), (17, true)] (by kernel_rfl) fun K => ?_ | with_reducible refine t_drawE (id := 10) (fun i => i == σ.length) [(0, true), (1, true), (2, true), (3, true), (4, true), (6, true), (7, true), (8, true), (9, true), (10, true), (5, false), (11, false), (12, false), (13, true)] (by kernel_rfl) fun K => ?_ | with_reducible refine t_draw (by kernel_rfl) fun K => ?_); simp only [go_sem, Int.cast_ofNat_Int, Nat.reduceEqDiff, reduceIte, Nat.reduceAdd, Nat.reduceMul, Nat.reduceLeDiff, Nat.reduceSub, Nat.reduceLT, Nat.zero_lt_succ, Int.reduceToNat, Int.reduceAdd, Int.reduceSub, Int.reduceMul, Int.reduceNeg, Int.reduceLT, Int.reduceLE, Int.reduceEq, Int.reduceBEq, Int.reduceBNe, Nat.reduceBEq, List.reduceReplicate, ho])
        | (with_reducible exact kp_nil)
        | (with_reducible exact Kp.refl _)
        | (with_reducible exact kp_to)
        | (with_reducible refine kp_cons ?_)
        | (with_reducible refine kp_arr ?_)
        | (with_reducible refine kp_app ?_)
        | ((with_reducible refine t_cond fun A B => ?_); simp only [go_sem, Int.cast_ofNat_Int, Nat.reduceEqDiff, reduceIte, Nat.reduceAdd, Nat.reduceMul, Nat.reduceLeDiff, Nat.reduceSub, Nat.reduceLT, Nat.zero_lt_succ, Int.reduceToNat, Int.reduceAdd, Int.reduceSub, Int.reduceMul, Int.reduceNeg, Int.reduceLT, Int.reduceLE, Int.reduceEq, Int.reduceBEq, Int.reduceBNe, Nat.reduceBEq, List.reduceReplicate, ho]; first | (with_reducible refine A.h ?_) | (with_reducible refine B.h ?_) | refine And.intro (fun hc => A.h ?_) (fun hc => B.h ?_))
        | simp only [thenQ_n, thenQ_r, thenQ_e, blockQ_n, blockQ_r, blockQ_e, scopeQ_n, scopeQ_r, scopeQ_e, Nat.reduceEqDiff, reduceIte]
        | (with_reducible refine And.intro ?_ ?_)
        | with_reducible intro vr)
      all_goals try (intros; (try simp only [Bool.and_eq_true, Bool.or_eq_true, Bool.not_eq_true', decide_eq_true_eq, decide_eq_false_iff_not, beq_iff_eq, bne_iff_ne, ne_eq, inI64, List.length_append] at *) <;> omega)
      exact end_ret rfl hk
    | cons c t =>
      have h1 : decide (((t.length + 1 : Nat) : Int) > 0) = true := decide_eq_true (by omega)
      refine ec_of E8_ok mixed (fun _ => [0, 2, 4, 9, 19]) Try.func29 rfl (by kernel_rfl) (Nat.le_of_ble_eq_true rfl) ?_
      simp only [initF_cons, initF_nil, Nat.reduceAdd]
      refine t_name fun KF => ?_
      unfold E8
      repeat' (first
        | with_reducible refine t_seq fun K => ?_
        | with_reducible refine t_block ?_
        | with_reducible refine t_scope ?_
        | with_reducible refine t_label ?_
        | with_reducible refine t_skip ?_
        | with_reducible refine t_exit ?_
        | with_reducible refine t_ret ?_
        | with_reducible refine t_k ?_
        | (with_reducible refine t_gF ?_)
        | ((first | with_reducible refine t_kE ?_ | with_reducible refine t_kD ?_ | with_reducible refine t_gS ?_ | with_reducible refine t_kL ?_ | (with_reducible refine t_kLE ?_ ?_; rotate_left) | with_reducible refine t_region fun K => ?_ | with_reducible refine t_drawE (id := 3) (fun i => i == σ.length) [(0, true), (1, true), (2, true), (3, true), (4, true), (6, true), (7, true), (8, true), (9, true), (10, true), (5, false), (11, false), (12, true), (13, true)] (by kernel_rfl) fun K => ?_ | with_reducible refine t_drawE (id := 7) (fun i => i == σ.length) [(0, true), (1, true), (2, true), (4, true), (5, true), (6, true), (3, false), (7, false), (8, true), (9, true)] (by kernel_rfl) fun K => ?_ | with_reducible refine t_drawE (id := 9) (fun i => i == σ.length) [(0, true), (1, true), (2, true), (3, true), (4, true), (5, true), (6, true), (8, true), (9, true), (10, true), (11, true), (12, true), (13, true), (14, true), (7, false), (15, false), (16, false), (17, true)] (by kernel_rfl) fun K => ?_ | with_reducible refine t_drawE (id := 10) (fun i => i == σ.length) [(0, true), (1, true), (2, true), (3, true), (4, true), (6, true), (7, true), (8, true), (9, true), (10, true), (5, false), (11, false), (12, false), (13, true)] (by kernel_rfl) fun K => ?_ | with_reducible refine t_draw (by kernel_rfl) fun K => ?_); simp only [go_sem, Int.cast_ofNat_Int, Nat.reduceEqDiff, reduceIte, Nat.reduceAdd, Nat.reduceMul, Nat.reduceLeDiff, Nat.reduceSub, Nat.reduceLT, Nat.zero_lt_succ, Int.reduceToNat, Int.reduceAdd, Int.reduceSub, Int.reduceMul, Int.reduceNeg, Int.reduceLT, Int.reduceLE, Int.reduceEq, Int.reduceBEq, Int.reduceBNe, Nat.reduceBEq, List.reduceReplicate, ho, h1])
        | (with_reducible exact kp_nil)
        | (with_reducible exact Kp.refl _)
        | (with_reducible exact kp_to)
        | (with_reducible refine kp_cons ?_)
        | (with_reducible refine kp_arr ?_)
        | (with_reducible refine kp_app ?_)
        | ((with_reducible refine t_cond fun A B => ?_); simp only [go_sem, Int.cast_ofNat_Int, Nat.reduceEqDiff, reduceIte, Nat.reduceAdd, Nat.reduceMul, Nat.reduceLeDiff, Nat.reduceSub, Nat.reduceLT, Nat.zero_lt_succ, Int.reduceToNat, Int.reduceAdd, Int.reduceSub, Int.reduceMul, Int.reduceNeg, Int.reduceLT, Int.reduceLE, Int.reduceEq, Int.reduceBEq, Int.reduceBNe, Nat.reduceBEq, List.reduceReplicate, ho, h1]; first | (with_reducible refine A.h ?_) | (with_reducible refine B.h ?_) | refine And.intro (fun hc => A.h ?_) (fun hc => B.h ?_))
        | simp only [thenQ_n, thenQ_r, thenQ_e, blockQ_n, blockQ_r, blockQ_e, scopeQ_n, scopeQ_r, scopeQ_e, Nat.reduceEqDiff, reduceIte]
        | (with_reducible refine And.intro ?_ ?_)
        | with_reducible intro vr)
      all_goals try (intros; (try simp only [Bool.and_eq_true, Bool.or_eq_true, Bool.not_eq_true', decide_eq_true_eq, decide_eq_false_iff_not, beq_iff_eq, bne_iff_ne, ne_eq, inI64, List.length_append] at *) <;> omega)
      exact end_ret rfl hk
  · have hz : (e0 != 0) = true := by simpa using h0
    rw [if_pos h0] at hk
    refine ec_of E8_ok mixed (fun _ => [0, 2, 4, 9, 19]) Try.func29 rfl (by kernel_rfl) (Nat.le_of_ble_eq_true rfl) ?_
    simp only [initF_cons, initF_nil, Nat.reduceAdd]
    refine t_name fun KF => ?_
    unfold E8
    repeat' (first
      | with_reducible refine t_seq fun K => ?_
      | with_reducible refine t_block ?_
      | with_reducible refine t_scope ?_
      | with_reducible refine t_label ?_
      | with_reducible refine t_skip ?_
      | with_reducible refine t_exit ?_
      | with_reducible refine t_ret ?_
      | with_reducible refine t_k ?_
      | (with_reducible refine t_gF ?_)
      | ((first | with_reducible refine t_kE ?_ | with_reducible refine t_kD ?_ | with_reducible refine t_gS ?_ | with_reducible refine t_kL ?_ | (with_reducible refine t_kLE ?_ ?_; rotate_left) | with_reducible refine t_region fun K => ?_ | with_reducible refine t_drawE (id := 3) (fun i => i == σ.length) [(0, true), (1, true), (2, true), (3, true), (4, true), (6, true), (7, true), (8, true), (9, true), (10, true), (5, false), (11, false), (12, true), (13, true)] (by kernel_rfl) fun K => ?_ | with_reducible refine t_drawE (id := 7) (fun i => i == σ.length) [(0, true), (1, true), (2, true), (4, true), (5, true), (6, true), (3, false), (7, false), (8, true), (9, true)] (by kernel_rfl) fun K => ?_ | with_reducible refine t_drawE (id := 9) (fun i => i == σ.length) [(0, true), (1, true), (2, true), (3, true), (4, true), (5, true), (6, true), (8, true), (9, true), (10, true), (11, true), (12, true), (13, true), (14, true), (7, false), (15, false), (16, false), (17, true)] (by kernel_rfl) fun K => ?_ | with_reducible refine t_drawE (id := 10) (fun i => i == σ.length) [(0, true), (1, true), (2, true), (3, true), (4, true), (6, true), (7, true), (8, true), (9, true), (10, true), (5, false), (11, false), (12, false), (13, true)] (by kernel_rfl) fun K => ?_ | with_reducible refine t_draw (by kernel_rfl) fun K => ?_); simp only [go_sem, Int.cast_ofNat_Int, Nat.reduceEqDiff, reduceIte, Nat.reduceAdd, Nat.reduceMul, Nat.reduceLeDiff, Nat.reduceSub, Nat.reduceLT, Nat.zero_lt_succ, Int.reduceToNat, Int.reduceAdd, Int.reduceSub, Int.reduceMul, Int.reduceNeg, Int.reduceLT, Int.reduceLE, Int.reduceEq, Int.reduceBEq, Int.reduceBNe, Nat.reduceBEq, List.reduceReplicate, ho, hz])
      | (with_reducible exact kp_nil)
      | (with_reducible exact Kp.refl _)
      | (with_reducible exact kp_to)
      | (with_reducible refine kp_cons ?_)
      | (with_reducible refine kp_arr ?_)
      | (with_reducible refine kp_app ?_)
      | ((with_reducible refine t_cond fun A B => ?_); simp only [go_sem, Int.cast_ofNat_Int, Nat.reduceEqDiff, reduceIte, Nat.reduceAdd, Nat.reduceMul, Nat.reduceLeDiff, Nat.reduceSub, Nat.reduceLT, Nat.zero_lt_succ, Int.reduceToNat, Int.reduceAdd, Int.reduceSub, Int.reduceMul, Int.reduceNeg, Int.reduceLT, Int.reduceLE, Int.reduceEq, Int.reduceBEq, Int.reduceBNe, Nat.reduceBEq, List.reduceReplicate, ho, hz]; first | (with_reducible refine A.h ?_) | (with_reducible refine B.h ?_) | refine And.intro (fun hc => A.h ?_) (fun hc => B.h ?_))
      | simp only [thenQ_n, thenQ_r, thenQ_e, blockQ_n, blockQ_r, blockQ_e, scopeQ_n, scopeQ_r, scopeQ_e, Nat.reduceEqDiff, reduceIte]
      | (with_reducible refine And.intro ?_ ?_)
      | with_reducible intro vr)
    exact end_ret rfl hk
noncomputable def rendCon : ECon Try.prog where
  f := 29
  c := fun args σ k => match args with
    | [.ref o 0] => rsrcAt σ o fun σ' l e0 => k (.lit (.int .i64 (if e0 ≠ 0 then e0 else if l = [] then 0 else 4))) σ'
    | _ => False
  ok := by
    intro args σ k h
    split at h
    · obtain ⟨σ', l, e0, h1, h2, h3⟩ := rsrcAt_inv h
      exact EC.clB h1 (rend_ec h2 h3)
    · exact h.elim
  fk := fk29
theorem rendCon_f : rendCon.f = 29 := rfl
theorem rendCon_c {σ : List AObj} {k : AV → List AObj → Prop} {o : Nat} : rendCon.c [.ref o 0] σ k = rsrcAt σ o fun σ' l e0 => k (.lit (.int .i64 (if e0 ≠ 0 then e0 else if l = [] then 0 else 4))) σ' := rfl
theorem le_clB {n0 : Nat} {f : Nat → AV} {σ σ' : List AObj} {o : Nat} (h : Fw.clB σ o = some σ') : Le n0 ⟨f, σ⟩ ⟨f, σ'⟩ := by
  intro cx G w N a _ hr hf
  obtain ⟨G', h1, h2⟩ := Rel.clB hr h
  exact ⟨G', h2, hf.mono h1⟩
/-- What is asked. -/
structure Ask where
  kind : Int
  most : Int
  lo : Int
  hi : Int
instance : Inhabited Ask := ⟨⟨0, 0, 0, 0⟩⟩
def askV (a : Ask) : AV := .agg [.lit (.int .i64 a.kind), .lit (.int .i64 a.most), .lit (.int .i64 a.lo), .lit (.int .i64 a.hi)]
theorem asks_getD (l : List Ask) {i : Nat} (h : i < l.length) : (l.map askV).getD i .top = askV (l.getD i default) := by simp [List.getD, h]
theorem step_ok {kind most lo hi : Int} {l : List Int} {e0 : Int} (h : okL l) : okL (stepS kind most lo hi l e0).1 := by
  have hr : ∀ {α : Type} (z : α) (x : α × List Int × Int), okL x.2.1 → okL (runS z l e0 x).2.1 := by
    intro α z x hx
    unfold runS
    split
    · exact h
    · split
      · exact h
      · exact hx
  unfold stepS
  (repeat' split)
  · rw [runS_num]; exact hr _ _ (numS_ok h (by decide)).1
  · exact hr _ _ (numS_ok h (by decide)).1
  · exact hr _ _ (rd_word l h).1
  · exact hr _ _ (manyS_ok (rd_num (by decide)) h)
  · exact hr _ _ (manyS_ok rd_word h)
noncomputable def E62 : Env := envOf (P := Try.prog) zer (fun _ => false) (fun d => d == 45 || d == 46) [awakeCon, same27Con] [readCon, endCon, rendCon]
theorem E62_ok : EnvOk Try.prog E62 := envOk zer_ok
set_option maxHeartbeats 4000000 in
theorem reads_pc {b : List Int} {l : List Ask} (hb : byt b) : PC Try.prog 7 [.sl false 1 (ints .u8 b), .sl false 4 (l.map askV)] (.lit (.bool true)) := by
  by_cases h1 : b.length > 200
  · have e1 : decide ((b.length : Int) > 200) = true := decide_eq_true (by omega)
    refine pc_of E62_ok mixed (fun _ => [0, 1, 4, 5, 6, 7, 9, 17, 29, 48]) Try.func7 rfl (by kernel_rfl) (Nat.le_of_ble_eq_true rfl) ?_
    simp only [initF_cons, initF_nil, Nat.reduceAdd]
    refine t_name fun KF => ?_
    unfold E62
    repeat' (first
      | with_reducible refine t_seq fun K => ?_
      | with_reducible refine t_block ?_
      | with_reducible refine t_scope ?_
      | with_reducible refine t_label ?_
      | with_reducible refine t_skip ?_
      | with_reducible refine t_exit ?_
      | with_reducible refine t_ret ?_
      | with_reducible refine t_k ?_
      | (with_reducible refine t_gF ?_)
      | ((first | with_reducible refine t_kE ?_ | with_reducible refine t_kD ?_ | with_reducible refine t_gS ?_ | with_reducible refine t_kL ?_ | (with_reducible refine t_kLE ?_ ?_; rotate_left) | with_reducible refine t_region fun K => ?_ | with_reducible refine t_draw (by kernel_rfl) fun K => ?_); simp only [go_sem, Int.cast_ofNat_Int, Nat.reduceEqDiff, reduceIte, Nat.reduceAdd, Nat.reduceMul, Nat.reduceLeDiff, Nat.reduceSub, Nat.reduceLT, Nat.zero_lt_succ, Int.reduceToNat, Int.reduceAdd, Int.reduceSub, Int.reduceMul, Int.reduceNeg, Int.reduceLT, Int.reduceLE, Int.reduceEq, Int.reduceBEq, Int.reduceBNe, Nat.reduceBEq, List.reduceReplicate, awakeCon_f, awakeCon_c, e1])
      | (with_reducible exact kp_nil)
      | (with_reducible exact Kp.refl _)
      | (with_reducible exact kp_to)
      | (with_reducible refine kp_cons ?_)
      | (with_reducible refine kp_arr ?_)
      | (with_reducible refine kp_app ?_)
      | ((with_reducible refine t_cond fun A B => ?_); simp only [go_sem, Int.cast_ofNat_Int, Nat.reduceEqDiff, reduceIte, Nat.reduceAdd, Nat.reduceMul, Nat.reduceLeDiff, Nat.reduceSub, Nat.reduceLT, Nat.zero_lt_succ, Int.reduceToNat, Int.reduceAdd, Int.reduceSub, Int.reduceMul, Int.reduceNeg, Int.reduceLT, Int.reduceLE, Int.reduceEq, Int.reduceBEq, Int.reduceBNe, Nat.reduceBEq, List.reduceReplicate, awakeCon_f, awakeCon_c, e1]; first | (with_reducible refine A.h ?_) | (with_reducible refine B.h ?_) | refine And.intro (fun hc => A.h ?_) (fun hc => B.h ?_))
      | simp only [thenQ_n, thenQ_r, thenQ_e, blockQ_n, blockQ_r, blockQ_e, scopeQ_n, scopeQ_r, scopeQ_e, Nat.reduceEqDiff, reduceIte]
      | (with_reducible refine And.intro ?_ ?_)
      | with_reducible intro vr)
    refine end_ret rfl ?_
    simp only [fin, go_sem, Int.cast_ofNat_Int, Nat.reduceEqDiff, reduceIte, Nat.reduceAdd, Nat.reduceMul, Nat.reduceLeDiff, Nat.reduceSub, Nat.reduceLT, Nat.zero_lt_succ, Int.reduceToNat, Int.reduceAdd, Int.reduceSub, Int.reduceMul, Int.reduceNeg, Int.reduceLT, Int.reduceLE, Int.reduceEq, Int.reduceBEq, Int.reduceBNe, Nat.reduceBEq, List.reduceReplicate]
    exact LeA.refl _
  have e1 : decide ((b.length : Int) > 200) = false := decide_eq_false (by omega)
  by_cases h2 : l.length > 12
  · have e2 : decide ((l.length : Int) > 12) = true := decide_eq_true (by omega)
    refine pc_of E62_ok mixed (fun _ => [0, 1, 4, 5, 6, 7, 9, 17, 29, 48]) Try.func7 rfl (by kernel_rfl) (Nat.le_of_ble_eq_true rfl) ?_
    simp only [initF_cons, initF_nil, Nat.reduceAdd]
    refine t_name fun KF => ?_
    unfold E62
    repeat' (first
      | with_reducible refine t_seq fun K => ?_
      | with_reducible refine t_block ?_
      | with_reducible refine t_scope ?_
      | with_reducible refine t_label ?_
      | with_reducible refine t_skip ?_
      | with_reducible refine t_exit ?_
      | with_reducible refine t_ret ?_
      | with_reducible refine t_k ?_
      | (with_reducible refine t_gF ?_)
      | ((first | with_reducible refine t_kE ?_ | with_reducible refine t_kD ?_ | with_reducible refine t_gS ?_ | with_reducible refine t_kL ?_ | (with_reducible refine t_kLE ?_ ?_; rotate_left) | with_reducible refine t_region fun K => ?_ | with_reducible refine t_draw (by kernel_rfl) fun K => ?_); simp only [go_sem, Int.cast_ofNat_Int, Nat.reduceEqDiff, reduceIte, Nat.reduceAdd, Nat.reduceMul, Nat.reduceLeDiff, Nat.reduceSub, Nat.reduceLT, Nat.zero_lt_succ, Int.reduceToNat, Int.reduceAdd, Int.reduceSub, Int.reduceMul, Int.reduceNeg, Int.reduceLT, Int.reduceLE, Int.reduceEq, Int.reduceBEq, Int.reduceBNe, Nat.reduceBEq, List.reduceReplicate, awakeCon_f, awakeCon_c, e1, e2, List.length_map])
      | (with_reducible exact kp_nil)
      | (with_reducible exact Kp.refl _)
      | (with_reducible exact kp_to)
      | (with_reducible refine kp_cons ?_)
      | (with_reducible refine kp_arr ?_)
      | (with_reducible refine kp_app ?_)
      | ((with_reducible refine t_cond fun A B => ?_); simp only [go_sem, Int.cast_ofNat_Int, Nat.reduceEqDiff, reduceIte, Nat.reduceAdd, Nat.reduceMul, Nat.reduceLeDiff, Nat.reduceSub, Nat.reduceLT, Nat.zero_lt_succ, Int.reduceToNat, Int.reduceAdd, Int.reduceSub, Int.reduceMul, Int.reduceNeg, Int.reduceLT, Int.reduceLE, Int.reduceEq, Int.reduceBEq, Int.reduceBNe, Nat.reduceBEq, List.reduceReplicate, awakeCon_f, awakeCon_c, e1, e2, List.length_map]; first | (with_reducible refine A.h ?_) | (with_reducible refine B.h ?_) | refine And.intro (fun hc => A.h ?_) (fun hc => B.h ?_))
      | simp only [thenQ_n, thenQ_r, thenQ_e, blockQ_n, blockQ_r, blockQ_e, scopeQ_n, scopeQ_r, scopeQ_e, Nat.reduceEqDiff, reduceIte]
      | (with_reducible refine And.intro ?_ ?_)
      | with_reducible intro vr)
    refine end_ret rfl ?_
    simp only [fin, go_sem, Int.cast_ofNat_Int, Nat.reduceEqDiff, reduceIte, Nat.reduceAdd, Nat.reduceMul, Nat.reduceLeDiff, Nat.reduceSub, Nat.reduceLT, Nat.zero_lt_succ, Int.reduceToNat, Int.reduceAdd, Int.reduceSub, Int.reduceMul, Int.reduceNeg, Int.reduceLT, Int.reduceLE, Int.reduceEq, Int.reduceBEq, Int.reduceBNe, Nat.reduceBEq, List.reduceReplicate]
    exact LeA.refl _
  have e2 : decide ((l.length : Int) > 12) = false := decide_eq_false (by omega)
  have hok : okL b := ⟨by omega, hb⟩
  refine pc_of E62_ok mixed (fun _ => [0, 1, 4, 5, 6, 7, 9, 17, 29, 48]) Try.func7 rfl (by kernel_rfl) (Nat.le_of_ble_eq_true rfl) ?_
  simp only [initF_cons, initF_nil, Nat.reduceAdd]
  refine t_name fun KF => ?_
  unfold E62
  repeat' (first
    | with_reducible refine t_seq fun K => ?_
    | with_reducible refine t_block ?_
    | with_reducible refine t_scope ?_
    | with_reducible refine t_label ?_
    | with_reducible refine t_skip ?_
    | with_reducible refine t_exit ?_
    | with_reducible refine t_ret ?_
    | with_reducible refine t_k ?_
    | (with_reducible refine t_gF ?_)
    | ((first | with_reducible refine t_kE ?_ | with_reducible refine t_kD ?_ | with_reducible refine t_gS ?_ | with_reducible refine t_kL ?_ | (with_reducible refine t_kLE ?_ ?_; rotate_left) | with_reducible refine t_region fun K => ?_ | with_reducible refine t_draw (by kernel_rfl) fun K => ?_); simp only [go_sem, Int.cast_ofNat_Int, Nat.reduceEqDiff, reduceIte, Nat.reduceAdd, Nat.reduceMul, Nat.reduceLeDiff, Nat.reduceSub, Nat.reduceLT, Nat.zero_lt_succ, Int.reduceToNat, Int.reduceAdd, Int.reduceSub, Int.reduceMul, Int.reduceNeg, Int.reduceLT, Int.reduceLE, Int.reduceEq, Int.reduceBEq, Int.reduceBNe, Nat.reduceBEq, List.reduceReplicate, awakeCon_f, awakeCon_c, e1, e2, List.length_map])
    | (with_reducible exact kp_nil)
    | (with_reducible exact Kp.refl _)
    | (with_reducible exact kp_to)
    | (with_reducible refine kp_cons ?_)
    | (with_reducible refine kp_arr ?_)
    | (with_reducible refine kp_app ?_)
    | ((with_reducible refine t_cond fun A B => ?_); simp only [go_sem, Int.cast_ofNat_Int, Nat.reduceEqDiff, reduceIte, Nat.reduceAdd, Nat.reduceMul, Nat.reduceLeDiff, Nat.reduceSub, Nat.reduceLT, Nat.zero_lt_succ, Int.reduceToNat, Int.reduceAdd, Int.reduceSub, Int.reduceMul, Int.reduceNeg, Int.reduceLT, Int.reduceLE, Int.reduceEq, Int.reduceBEq, Int.reduceBNe, Nat.reduceBEq, List.reduceReplicate, awakeCon_f, awakeCon_c, e1, e2, List.length_map]; first | (with_reducible refine A.h ?_) | (with_reducible refine B.h ?_) | refine And.intro (fun hc => A.h ?_) (fun hc => B.h ?_))
    | simp only [thenQ_n, thenQ_r, thenQ_e, blockQ_n, blockQ_r, blockQ_e, scopeQ_n, scopeQ_r, scopeQ_e, Nat.reduceEqDiff, reduceIte]
    | (with_reducible refine And.intro ?_ ?_)
    | with_reducible intro vr)
  all_goals try (intros; (try simp only [Bool.and_eq_true, Bool.or_eq_true, Bool.not_eq_true', decide_eq_true_eq, decide_eq_false_iff_not, beq_iff_eq, bne_iff_ne, ne_eq, inI64, List.length_append] at *) <;> omega)
  refine t_loop (ι := { i : Nat × List Int × Int // okL i.2.1 ∧ i.1 ≤ l.length }) (fun i => ⟨upd (upd (upd (upd topF 7 (.lit (.int .i64 i.1.1))) 6 (.ref 3 0)) 5 (.ref 1 0)) 1 (.sl false 4 (l.map askV)),
    [.arr 5 1 (ints .u8 b) 0 true, src i.1.2.1 i.1.2.2, .arr 5 1 (ints .u8 b) 0 true, rsrc i.1.2.1 i.1.2.2]⟩) (fun i => l.length - i.1.1) ⟨(0, b, 0), hok, by simp⟩ ?_ ?_
  · refine (le_clB (o := 1) rfl).trans ((le_clB (o := 3) rfl).trans ?_)
    (refine Le.frame ?_; repeat' (first | exact leF_top _ | (with_reducible refine leF_sl ?_ ?_) | (refine leF_upd (LeR.of_eq ?_) ?_))) <;> (try (simp only [go_sem, Int.cast_ofNat_Int, Nat.reduceEqDiff, reduceIte, Nat.reduceAdd, Nat.reduceMul, Nat.reduceLeDiff, Nat.reduceSub, Nat.reduceLT, Nat.zero_lt_succ, Int.reduceToNat, Int.reduceAdd, Int.reduceSub, Int.reduceMul, Int.reduceNeg, Int.reduceLT, Int.reduceLE, Int.reduceEq, Int.reduceBEq, Int.reduceBNe, Nat.reduceBEq, List.reduceReplicate]; try rfl))
  · rintro ⟨⟨i, r, e⟩, hr, hi⟩ K0
    simp only at hr hi
    rcases Nat.lt_or_ge i l.length with hc | hc
    · have g1 : decide ((i : Int) < (l.length : Int)) = true := decide_eq_true (by omega)
      have hel := asks_getD l hc
      have hst := step_ok (kind := (l.getD i default).kind) (most := (l.getD i default).most) (lo := (l.getD i default).lo) (hi := (l.getD i default).hi) (e0 := e) hr
      generalize hS : stepS (l.getD i default).kind (l.getD i default).most (l.getD i default).lo (l.getD i default).hi r e = z at hst
      obtain ⟨r', e'⟩ := z
      have n1 : ((if e' ≠ 0 then e' else if r' = [] then 0 else 4 : Int) != (if e' ≠ 0 then e' else if r' = [] then 0 else 4 : Int)) = false := by simp
      have a1 : ∀ {A B C : AObj} {r : List Int} {e : Int} {p : List AObj → List Int → Int → Prop}, srcAt [A, .box 26 [.sl false 1 (ints .u8 r), .lit (.int .i64 e)], B, C] 1 p = p [A, src r e, B, C] r e := srcAt_src rfl
      have a3 : ∀ {A B C : AObj} {r : List Int} {e : Int} {p : List AObj → List Int → Int → Prop}, rsrcAt [A, B, C, .box 43 [.sl false 1 (ints .u8 r), .lit (.int .i64 e)]] 3 p = p [A, B, C, rsrc r e] r e := rsrcAt_src rfl
      repeat' (first
        | with_reducible refine t_seq fun K => ?_
        | with_reducible refine t_block ?_
        | with_reducible refine t_scope ?_
        | with_reducible refine t_label ?_
        | with_reducible refine t_skip ?_
        | with_reducible refine t_exit ?_
        | with_reducible refine t_ret ?_
        | with_reducible refine t_k ?_
        | (with_reducible refine t_gF ?_)
        | ((first | with_reducible refine t_kE ?_ | with_reducible refine t_kD ?_ | with_reducible refine t_gS ?_ | with_reducible refine t_kL ?_ | (with_reducible refine t_kLE ?_ ?_; rotate_left) | with_reducible refine t_region fun K => ?_ | with_reducible refine t_draw (by kernel_rfl) fun K => ?_); simp only [go_sem, Int.cast_ofNat_Int, Nat.reduceEqDiff, reduceIte, Nat.reduceAdd, Nat.reduceMul, Nat.reduceLeDiff, Nat.reduceSub, Nat.reduceLT, Nat.zero_lt_succ, Int.reduceToNat, Int.reduceAdd, Int.reduceSub, Int.reduceMul, Int.reduceNeg, Int.reduceLT, Int.reduceLE, Int.reduceEq, Int.reduceBEq, Int.reduceBNe, Nat.reduceBEq, List.reduceReplicate, g1, Int.toNat_natCast, hel, askV, readCon_f, readCon_c, a1, a3, src, rsrc, hS, hr, awakeCon_f, same27Con_f, same27Con_c, slK_sl, endCon_f, endCon_c, rendCon_f, rendCon_c, n1, List.length_map])
        | (with_reducible exact kp_nil)
        | (with_reducible exact Kp.refl _)
        | (with_reducible exact kp_to)
        | (with_reducible refine kp_cons ?_)
        | (with_reducible refine kp_arr ?_)
        | (with_reducible refine kp_app ?_)
        | ((with_reducible refine t_cond fun A B => ?_); simp only [go_sem, Int.cast_ofNat_Int, Nat.reduceEqDiff, reduceIte, Nat.reduceAdd, Nat.reduceMul, Nat.reduceLeDiff, Nat.reduceSub, Nat.reduceLT, Nat.zero_lt_succ, Int.reduceToNat, Int.reduceAdd, Int.reduceSub, Int.reduceMul, Int.reduceNeg, Int.reduceLT, Int.reduceLE, Int.reduceEq, Int.reduceBEq, Int.reduceBNe, Nat.reduceBEq, List.reduceReplicate, g1, Int.toNat_natCast, hel, askV, readCon_f, readCon_c, a1, a3, src, rsrc, hS, hr, awakeCon_f, same27Con_f, same27Con_c, slK_sl, endCon_f, endCon_c, rendCon_f, rendCon_c, n1, List.length_map]; first | (with_reducible refine A.h ?_) | (with_reducible refine B.h ?_) | refine And.intro (fun hc => A.h ?_) (fun hc => B.h ?_))
        | simp only [thenQ_n, thenQ_r, thenQ_e, blockQ_n, blockQ_r, blockQ_e, scopeQ_n, scopeQ_r, scopeQ_e, Nat.reduceEqDiff, reduceIte]
        | (with_reducible refine And.intro ?_ ?_)
        | with_reducible intro vr)
      all_goals try (intros; (try simp only [Bool.and_eq_true, Bool.or_eq_true, Bool.not_eq_true', decide_eq_true_eq, decide_eq_false_iff_not, beq_iff_eq, bne_iff_ne, ne_eq, inI64, List.length_append] at *) <;> omega)
      refine ⟨⟨(i + 1, r', e'), hst, by simp only; omega⟩, by simp only; omega, ?_⟩
      (refine Le.frame ?_; repeat' (first | exact leF_top _ | (with_reducible refine leF_sl ?_ ?_) | (refine leF_upd (LeR.of_eq ?_) ?_))) <;> (try (simp only [go_sem, Int.cast_ofNat_Int, Nat.reduceEqDiff, reduceIte, Nat.reduceAdd, Nat.reduceMul, Nat.reduceLeDiff, Nat.reduceSub, Nat.reduceLT, Nat.zero_lt_succ, Int.reduceToNat, Int.reduceAdd, Int.reduceSub, Int.reduceMul, Int.reduceNeg, Int.reduceLT, Int.reduceLE, Int.reduceEq, Int.reduceBEq, Int.reduceBNe, Nat.reduceBEq, List.reduceReplicate]; try rfl))
    · have g1 : decide ((i : Int) < (l.length : Int)) = false := decide_eq_false (by omega)
      repeat' (first
        | with_reducible refine t_seq fun K => ?_
        | with_reducible refine t_block ?_
        | with_reducible refine t_scope ?_
        | with_reducible refine t_label ?_
        | with_reducible refine t_skip ?_
        | with_reducible refine t_exit ?_
        | with_reducible refine t_ret ?_
        | with_reducible refine t_k ?_
        | (with_reducible refine t_gF ?_)
        | ((first | with_reducible refine t_kE ?_ | with_reducible refine t_kD ?_ | with_reducible refine t_gS ?_ | with_reducible refine t_kL ?_ | (with_reducible refine t_kLE ?_ ?_; rotate_left) | with_reducible refine t_region fun K => ?_ | with_reducible refine t_draw (by kernel_rfl) fun K => ?_); simp only [go_sem, Int.cast_ofNat_Int, Nat.reduceEqDiff, reduceIte, Nat.reduceAdd, Nat.reduceMul, Nat.reduceLeDiff, Nat.reduceSub, Nat.reduceLT, Nat.zero_lt_succ, Int.reduceToNat, Int.reduceAdd, Int.reduceSub, Int.reduceMul, Int.reduceNeg, Int.reduceLT, Int.reduceLE, Int.reduceEq, Int.reduceBEq, Int.reduceBNe, Nat.reduceBEq, List.reduceReplicate, g1, List.length_map])
        | (with_reducible exact kp_nil)
        | (with_reducible exact Kp.refl _)
        | (with_reducible exact kp_to)
        | (with_reducible refine kp_cons ?_)
        | (with_reducible refine kp_arr ?_)
        | (with_reducible refine kp_app ?_)
        | ((with_reducible refine t_cond fun A B => ?_); simp only [go_sem, Int.cast_ofNat_Int, Nat.reduceEqDiff, reduceIte, Nat.reduceAdd, Nat.reduceMul, Nat.reduceLeDiff, Nat.reduceSub, Nat.reduceLT, Nat.zero_lt_succ, Int.reduceToNat, Int.reduceAdd, Int.reduceSub, Int.reduceMul, Int.reduceNeg, Int.reduceLT, Int.reduceLE, Int.reduceEq, Int.reduceBEq, Int.reduceBNe, Nat.reduceBEq, List.reduceReplicate, g1, List.length_map]; first | (with_reducible refine A.h ?_) | (with_reducible refine B.h ?_) | refine And.intro (fun hc => A.h ?_) (fun hc => B.h ?_))
        | simp only [thenQ_n, thenQ_r, thenQ_e, blockQ_n, blockQ_r, blockQ_e, scopeQ_n, scopeQ_r, scopeQ_e, Nat.reduceEqDiff, reduceIte]
        | (with_reducible refine And.intro ?_ ?_)
        | with_reducible intro vr)
      refine end_ret rfl ?_
      simp only [fin, go_sem, Int.cast_ofNat_Int, Nat.reduceEqDiff, reduceIte, Nat.reduceAdd, Nat.reduceMul, Nat.reduceLeDiff, Nat.reduceSub, Nat.reduceLT, Nat.zero_lt_succ, Int.reduceToNat, Int.reduceAdd, Int.reduceSub, Int.reduceMul, Int.reduceNeg, Int.reduceLT, Int.reduceLE, Int.reduceEq, Int.reduceBEq, Int.reduceBNe, Nat.reduceBEq, List.reduceReplicate]
      exact LeA.refl _
theorem asks_of {ys : List AV} (h : ∀ y ∈ ys, ShV Try.prog 48 y) : ∃ l : List Ask, ys = l.map askV := by
  induction ys with
  | nil => exact ⟨[], rfl⟩
  | cons y ys ih =>
    obtain ⟨l, rfl⟩ := ih fun z hz => h z (by simp [hz])
    obtain ⟨c, rfl, hc⟩ := shv_agg ag48 (h y (by simp))
    obtain ⟨xss, e, hl, hx⟩ := sh_struct Try.underlying48 hc
    match xss, hl, hx, e with
    | [x0, x1, x2, x3], _, hx, e =>
      obtain ⟨k, rfl, _⟩ := sh_int u3 (hx 0 _ _ rfl rfl)
      obtain ⟨m, rfl, _⟩ := sh_int u3 (hx 1 _ _ rfl rfl)
      obtain ⟨lo, rfl, _⟩ := sh_int u3 (hx 2 _ _ rfl rfl)
      obtain ⟨hi, rfl, _⟩ := sh_int u3 (hx 3 _ _ rfl rfl)
      exact ⟨⟨k, m, lo, hi⟩ :: l, by rw [e]; rfl⟩
theorem reads_law : ∀ xs, ShL Try.prog Try.f7.params.toList xs → PC Try.prog 7 xs (.lit (.bool true))
  | [x, y], h => by
    obtain ⟨b, rfl, _, hb⟩ := shv_ints u22 u5 sz5 h.1
    obtain ⟨ys, rfl, _, hy⟩ := shv_slice u42 h.2.1
    obtain ⟨l, rfl⟩ := asks_of hy
    rw [sz48]
    exact reads_pc fun n hn => wf_u8 (hb n hn)
  | [], h => h.elim
  | [_], h => h.2.elim
  | _ :: _ :: _ :: _, h => h.2.2.elim
end Go.Proofs.Ytgkjocnfdllieaa
