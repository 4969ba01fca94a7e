/- The dimensions of a result (reference). -/
import Derived.Test.YtjlcbojpiieafaaSB
import Derived.Test.YtjlcbojpiieafaaFwB
import Derived.Test.YtjlcbojpiieafaaSA

set_option linter.all false

namespace Go.Proofs.Ytjlcbojpiieafaa
open Go Go.Fw

theorem find_no {op : ByteArray} {n : Int} (hno : eqS op ⟨#[105, 111, 116, 97]⟩ = false ∧ eqS op ⟨#[102, 105, 108, 108]⟩ = false ∧ eqS op ⟨#[116, 97, 107, 101]⟩ = false ∧ eqS op ⟨#[100, 114, 111, 112]⟩ = false ∧ eqS op ⟨#[114, 101, 118, 101, 114, 115, 101]⟩ = false ∧ eqS op ⟨#[97, 112, 112, 101, 110, 100]⟩ = false ∧ eqS op ⟨#[116, 114, 97, 110, 115, 112, 111, 115, 101]⟩ = false ∧ eqS op ⟨#[100, 105, 97, 103, 111, 110, 97, 108]⟩ = false ∧ eqS op ⟨#[119, 105, 110, 100, 111, 119, 115]⟩ = false ∧ eqS op ⟨#[99, 104, 117, 110, 107]⟩ = false ∧ eqS op ⟨#[105, 110, 100, 101, 120]⟩ = false ∧ eqS op ⟨#[117, 112, 100, 97, 116, 101]⟩ = false ∧ eqS op ⟨#[112, 97, 99, 107]⟩ = false) : (findS op n).2 = false := by
  obtain ⟨q0, q1, q2, q3, q4, q5, q6, q7, q8, q9, q10, q11, q12⟩ := hno
  simp only [findS, findG, ents, eqS_symm _ op]
  simp only [n_iota, n_fill, n_take, n_drop, n_reverse, n_append, n_transpose, n_diagonal, n_windows, n_chunk, n_index, n_update, n_pack, q0, q1, q2, q3, q4, q5, q6, q7, q8, q9, q10, q11, q12]
  rfl
theorem ranks_eq {op : ByteArray} {n : Int} (h0 : 0 ≤ n) (hn : n ≤ 4096) : ranksQ op n = ranksI op n := by
  rcases op_cases op with rfl | rfl | rfl | rfl | rfl | rfl | rfl | rfl | rfl | rfl | rfl | rfl | rfl | hno
  · have e2 : findS n_iota n = (ents.getD 0 ent0, true) := rfl
    unfold ranksQ ranksI
    rw [e2, opI_iota]
    simp only [rankL, ents, List.getD_cons_zero, List.getD_cons_succ]
    simp
  · have e2 : findS n_fill n = (ents.getD 1 ent0, true) := rfl
    unfold ranksQ ranksI
    rw [e2, opI_fill]
    simp only [rankL, ents, List.getD_cons_zero, List.getD_cons_succ]
    simp
  · have e2 : findS n_take n = (ents.getD 2 ent0, true) := rfl
    unfold ranksQ ranksI
    rw [e2, opI_take]
    simp only [rankL, ents, List.getD_cons_zero, List.getD_cons_succ]
    simp
  · have e2 : findS n_drop n = (ents.getD 3 ent0, true) := rfl
    unfold ranksQ ranksI
    rw [e2, opI_drop]
    simp only [rankL, ents, List.getD_cons_zero, List.getD_cons_succ]
    simp
  · have e2 : findS n_reverse n = (ents.getD 4 ent0, true) := rfl
    unfold ranksQ ranksI
    rw [e2, opI_reverse]
    simp only [rankL, ents, List.getD_cons_zero, List.getD_cons_succ]
    simp
  · have e2 : findS n_append n = (ents.getD 5 ent0, true) := rfl
    unfold ranksQ ranksI
    rw [e2, opI_append]
    simp only [rankL, ents, List.getD_cons_zero, List.getD_cons_succ]
    simp
  · have e2 : findS n_transpose n = (ents.getD 6 ent0, true) := rfl
    unfold ranksQ ranksI
    rw [e2, opI_transpose]
    simp only [rankL, ents, List.getD_cons_zero, List.getD_cons_succ]
    simp
  · have e2 : findS n_diagonal n = (ents.getD 7 ent0, true) := rfl
    unfold ranksQ ranksI
    rw [e2, opI_diagonal]
    simp only [rankL, ents, List.getD_cons_zero, List.getD_cons_succ]
    simp
  · have e2 : findS n_windows n = (ents.getD 8 ent0, true) := rfl
    unfold ranksQ ranksI
    rw [e2, opI_windows]
    simp only [rankL, ents, List.getD_cons_zero, List.getD_cons_succ]
    simp
  · have e2 : findS n_chunk n = (ents.getD 9 ent0, true) := rfl
    unfold ranksQ ranksI
    rw [e2, opI_chunk]
    simp only [rankL, ents, List.getD_cons_zero, List.getD_cons_succ]
    simp
  · have e2 : findS n_index n = (ents.getD 10 ent0, true) := rfl
    unfold ranksQ ranksI
    rw [e2, opI_index]
    simp only [rankL, ents, List.getD_cons_zero, List.getD_cons_succ]
    simp
  · have e2 : findS n_update n = (ents.getD 11 ent0, true) := rfl
    unfold ranksQ ranksI
    rw [e2, opI_update]
    simp only [rankL, ents, List.getD_cons_zero, List.getD_cons_succ]
    simp
  · have e2 : findS n_pack n = (packE n, true) := rfl
    unfold ranksQ ranksI
    rw [e2, opI_pack]
    simp only [rankL, packE]
    by_cases h1 : 1 ≤ n
    · have hm : maxI n 1 = n := by unfold maxI; rw [if_neg (by omega)]
      rw [if_pos ⟨h1, hn⟩]
      simp only [hm]
      simp
    · have hm : maxI n 1 = 1 := by unfold maxI; rw [if_pos (by omega)]
      rw [if_neg (by omega)]
      simp only [hm]
      rw [if_pos (by right; simp; omega)]
  · unfold ranksQ ranksI
    rw [opI_no hno]
    have e2 : (findS op n).2 = false := by
      obtain ⟨q0, q1, q2, q3, q4, q5, q6, q7, q8, q9, q10, q11, q12⟩ := hno
      simp only [findS, findG, ents, eqS_symm _ op]
      simp only [n_iota, n_fill, n_take, n_drop, n_reverse, n_append, n_transpose, n_diagonal, n_windows, n_chunk, n_index, n_update, n_pack, q0, q1, q2, q3, q4, q5, q6, q7, q8, q9, q10, q11, q12]
      rfl
    rw [if_pos (.inl e2)]
    rfl
theorem shape0 {ds : List (List Int)} (hl : ((([] : List Int).length : Nat) : Int) = ds.length) : ds = [] := by
  match ds, hl with
  | [], _ => rfl
  | _ :: _, hl => simp at hl; omega
theorem shape1 {r : Int} {ds : List (List Int)} (hl : ([r].length : Int) = ds.length) (hr : rkBad ds [r] = false) : ∃ a, ds = [a] ∧ (a.length : Int) = r := by
  match ds, hl, hr with
  | [a], _, hr => exact ⟨a, rfl, by simpa [rkBad] using hr⟩
  | [], hl, _ => simp at hl
  | _ :: _ :: _, hl, _ => simp only [List.length_cons, List.length_nil] at hl; omega
theorem shape2 {r s : Int} {ds : List (List Int)} (hl : ([r, s].length : Int) = ds.length) (hr : rkBad ds [r, s] = false) : ∃ a b, ds = [a, b] ∧ (a.length : Int) = r ∧ (b.length : Int) = s := by
  match ds, hl, hr with
  | [a, b], _, hr => exact ⟨a, b, rfl, by simpa [rkBad] using hr⟩
  | [], hl, _ => simp at hl
  | [_], hl, _ => simp at hl
  | _ :: _ :: _ :: _, hl, _ => simp only [List.length_cons, List.length_nil] at hl; omega
theorem shape3 {r s t : Int} {ds : List (List Int)} (hl : ([r, s, t].length : Int) = ds.length) (hr : rkBad ds [r, s, t] = false) : ∃ a b c, ds = [a, b, c] ∧ (a.length : Int) = r ∧ (b.length : Int) = s ∧ (c.length : Int) = t := by
  match ds, hl, hr with
  | [a, b, c], _, hr => exact ⟨a, b, c, rfl, by simpa [rkBad] using hr⟩
  | [], hl, _ => simp at hl
  | [_], hl, _ => simp at hl
  | [_, _], hl, _ => simp only [List.length_cons, List.length_nil] at hl; omega
  | _ :: _ :: _ :: _ :: _, hl, _ => simp only [List.length_cons, List.length_nil] at hl; omega
theorem len0 {a : List Int} (h : (a.length : Int) = 0) : a = [] := List.eq_nil_of_length_eq_zero (by omega)
theorem len1' {a : List Int} (h : (a.length : Int) = 1) : ∃ x, a = [x] := by
  match a, h with
  | [x], _ => exact ⟨x, rfl⟩
  | [], h => simp at h
  | _ :: _ :: _, h => simp only [List.length_cons] at h; omega
theorem len2' {a : List Int} (h : (a.length : Int) = 2) : ∃ x y, a = [x, y] := by
  match a, h with
  | [x, y], _ => exact ⟨x, y, rfl⟩
  | [], h => simp at h
  | [_], h => simp at h
  | _ :: _ :: _ :: _, h => simp only [List.length_cons] at h; omega
theorem pack_len {ds : List (List Int)} {n : Nat} (h : rkBad ds (List.replicate n 0) = false) (hn : ds.length ≤ n) : (ds.getD 0 []).length = 0 := by
  match ds, n, h, hn with
  | [], _, _, _ => rfl
  | a :: _, n + 1, h, _ =>
    rw [List.replicate_succ, rkBad] at h
    split at h
    · cases h
    · rename_i hne; simp at hne; simp [hne]
  | _ :: _, 0, _, hn => simp at hn
noncomputable def G3 : Env := envJ (P := Try.prog) jk2 zer (fun _ => false) (fun _ => true) [con30b, con51, con76, con84] []
theorem G3_ok : EnvOk Try.prog G3 := envJOk zer_ok
theorem giv_e {op : ByteArray} {n : Int} {e e' : Ent} (h : findS op n = (e, true)) (h' : findS op n = (e', true)) : e = e' := by rw [h] at h'; injection h'
set_option maxRecDepth 20000 in
set_option maxHeartbeats 16000000 in
theorem dimsR_pc {op : ByteArray} {ns : List Int} {num : Int} {ds : List (List Int)} (hn : ds.length ≤ 4096) : PC Try.prog 53 [.lit (.string op), .sl false 1 (ints .i64 ns), .lit (.int .i64 num), .sl false 1 (ils ds)] (dV (dimsI op ns num ds)) := by
  generalize hR : dimsI op ns num ds = R
  unfold dimsI at hR
  have hG2 := right_eq (op := op) (ns := ns.length) (num := num) (n := ds.length) (by omega) (by omega)
  generalize hG : givenS op ns.length num ds.length = r at hR hG2
  obtain ⟨e, er⟩ := r
  simp only at hR hG2
  by_cases h0 : er = 0
  · subst h0
    rw [if_neg (by simp)] at hR
    obtain ⟨-, hl, hw, hnum, -, hfs⟩ := given_ok hG
    have hRk : ranksQ op ds.length = (e.ranks, true) := by
      rw [ranks_eq (by omega) (by omega)]
      unfold ranksI
      rw [hfs, if_neg (by simp; omega)]
    refine pc_ofR G3_ok mixed (kp53) (rs := [.tmp 8, .tmp 9]) Try.func53 rfl (by kernel_rfl) (by kernel_rfl) (Nat.le_of_ble_eq_true rfl) ?_
    simp only [initF_cons, initF_nil, Nat.reduceAdd]
    refine t_name fun KF => ?_
    unfold G3
    repeat' (first
      | with_reducible refine t_seq fun K => ?_
      | with_reducible refine t_block ?_
      | with_reducible refine t_scope ?_
      | with_reducible refine t_label ?_
      | with_reducible refine t_skip ?_
      | with_reducible refine t_exit ?_
      | with_reducible refine t_ret ?_
      | with_reducible refine t_k ?_
      | (with_reducible refine t_gF ?_)
      | ((first | with_reducible refine t_kE (t_openE ?_) | with_reducible refine t_kD (t_openD ?_) | with_reducible refine t_kE ?_ | with_reducible refine t_kD ?_ | with_reducible refine t_gS ?_ | with_reducible refine t_kL ?_ | (with_reducible refine t_kLE ?_ ?_; rotate_left) | with_reducible refine t_region fun K => ?_ | with_reducible refine t_draw (by kernel_rfl) fun K => ?_); (try (first | refine t_hideE fun KL => ?_ | refine t_hideD fun KL => ?_)); simp only [go_sem, geff_true, geff_false, kp53, con76_f, con51_f, con30b_f, con84_f, con76_c, con51_c, con30b_c, con84_c, ils_length, slK_sl, hG2, hRk, rkV_def, szV_def])
      | (with_reducible exact kp_nil)
      | (with_reducible exact Kp.refl _)
      | (with_reducible exact kp_to)
      | (with_reducible refine kp_cons ?_)
      | (with_reducible refine kp_arr ?_)
      | (with_reducible refine kp_app ?_)
      | ((with_reducible refine kp_skip ?_ ?_); rfl)
      | ((with_reducible refine t_cond fun A B => ?_); simp only [go_sem, geff_true, geff_false, kp53, con76_f, con51_f, con30b_f, con84_f, con76_c, con51_c, con30b_c, con84_c, ils_length, slK_sl, hG2, hRk, rkV_def, szV_def]; first | (with_reducible refine A.h ?_) | (with_reducible refine B.h ?_) | (refine And.intro (fun hc => A.h ?_) (fun hc => B.h ?_)))
      | ((with_reducible refine t_geffS (fun hg => ?_) (fun hg => ?_)) <;> ((try simp only [Bool.not_eq_true', Bool.not_eq_false', Bool.and_eq_true, Bool.or_eq_false_iff] at hg); simp only [hg, go_sem, geff_true, geff_false, kp53, con76_f, con51_f, con30b_f, con84_f, con76_c, con51_c, con30b_c, con84_c, ils_length, slK_sl, hG2, hRk, rkV_def, szV_def]))
      | simp only [thenQ_n, thenQ_r, thenQ_e, blockQ_n, blockQ_r, blockQ_e, scopeQ_n, scopeQ_r, scopeQ_e, Nat.reduceEqDiff, reduceIte]
      | (with_reducible refine And.intro ?_ ?_)
      | with_reducible intro vr)
    all_goals try (first | (with_reducible assumption) | (intros; (try simp only [Bool.and_eq_true, Bool.or_eq_true, Bool.or_eq_false_iff, Bool.not_eq_true', Bool.not_eq_false', decide_eq_true_eq, decide_eq_false_iff_not, beq_iff_eq, beq_eq_false_iff_ne, bne_iff_ne, bne_eq_false_iff_eq, ne_eq, inI64, List.length_append] at *) <;> omega))
    refine t_loopF (ι := { i : Nat // i ≤ ds.length ∧ rkBad (ds.drop i) (e.ranks.drop i) = rkBad ds e.ranks }) (fun i => [(13, .lit (.int .i64 i.1))]) (fun i => []) (fun i => ds.length - i.1) ⟨0, by omega, rfl⟩ ?_ ?_
    · simp only [updL_nil, updL_cons, delF_top, delF_upd, Nat.reduceEqDiff, reduceIte]
      refine Le.frameS (by first | rfl | (simp only [go_sem]; try rfl)) ?_
      repeat' (first | exact leF_top _ | exact (fun _ => LeR.refl _) | (with_reducible refine leF_sl ?_ ?_) | (refine leF_upd ?_ ?_))
      all_goals (first | exact LeR.top _ | exact LeR.refl _ | (refine LeR.of_eq ?_; (try simp only [go_sem]); try rfl) | ((try simp only [go_sem]); try rfl))
    rintro ⟨i, hi, hF⟩ K0
    rcases Nat.lt_or_ge i ds.length with hc | hc
    · rw [drop_getD [] hc, drop_getD 0 (show i < e.ranks.length by omega), rkBad] at hF
      have g3 : decide ((i : Int) < (ds.length : Int)) = true := decide_eq_true (by omega)
      repeat' (first
        | with_reducible refine t_seq fun K => ?_
        | with_reducible refine t_block ?_
        | with_reducible refine t_scope ?_
        | with_reducible refine t_label ?_
        | with_reducible refine t_skip ?_
        | with_reducible refine t_exit ?_
        | with_reducible refine t_ret ?_
        | with_reducible refine t_k ?_
        | (with_reducible refine t_gF ?_)
        | ((first | with_reducible refine t_kE (t_openE ?_) | with_reducible refine t_kD (t_openD ?_) | with_reducible refine t_kE ?_ | with_reducible refine t_kD ?_ | with_reducible refine t_gS ?_ | with_reducible refine t_kL ?_ | (with_reducible refine t_kLE ?_ ?_; rotate_left) | with_reducible refine t_region fun K => ?_ | with_reducible refine t_draw (by kernel_rfl) fun K => ?_); (try (first | refine t_hideE fun KL => ?_ | refine t_hideD fun KL => ?_)); simp only [go_sem, geff_true, geff_false, kp53, g3, Int.toNat_natCast, con76_f, con51_f, con30b_f, con84_f, con76_c, con51_c, con30b_c, con84_c, ils_length, slK_sl, hG2, hRk, rkV_def, szV_def])
        | (with_reducible exact kp_nil)
        | (with_reducible exact Kp.refl _)
        | (with_reducible exact kp_to)
        | (with_reducible refine kp_cons ?_)
        | (with_reducible refine kp_arr ?_)
        | (with_reducible refine kp_app ?_)
        | ((with_reducible refine kp_skip ?_ ?_); rfl)
        | ((with_reducible refine t_cond fun A B => ?_); simp only [go_sem, geff_true, geff_false, kp53, g3, Int.toNat_natCast, con76_f, con51_f, con30b_f, con84_f, con76_c, con51_c, con30b_c, con84_c, ils_length, slK_sl, hG2, hRk, rkV_def, szV_def]; first | (with_reducible refine A.h ?_) | (with_reducible refine B.h ?_) | (refine And.intro (fun hc => A.h ?_) (fun hc => B.h ?_)))
        | ((with_reducible refine t_geffS (fun hg => ?_) (fun hg => ?_)) <;> ((try simp only [Bool.not_eq_true', Bool.not_eq_false', Bool.and_eq_true, Bool.or_eq_false_iff] at hg); simp only [hg, go_sem, geff_true, geff_false, kp53, g3, Int.toNat_natCast, con76_f, con51_f, con30b_f, con84_f, con76_c, con51_c, con30b_c, con84_c, ils_length, slK_sl, hG2, hRk, rkV_def, szV_def]))
        | simp only [thenQ_n, thenQ_r, thenQ_e, blockQ_n, blockQ_r, blockQ_e, scopeQ_n, scopeQ_r, scopeQ_e, Nat.reduceEqDiff, reduceIte]
        | (with_reducible refine And.intro ?_ ?_)
        | with_reducible intro vr)
      all_goals try (first | (with_reducible assumption) | (intros; (try simp only [Bool.and_eq_true, Bool.or_eq_true, Bool.or_eq_false_iff, Bool.not_eq_true', Bool.not_eq_false', decide_eq_true_eq, decide_eq_false_iff_not, beq_iff_eq, beq_eq_false_iff_ne, bne_iff_ne, bne_eq_false_iff_eq, ne_eq, inI64, List.length_append] at *) <;> omega))
      · skip
        all_goals ((first | refine end_retE ?_ | refine end_normE ?_); simp only [fin, go_sem])
        rw [if_pos (by simpa using hc)] at hF
        rw [if_pos hF.symm] at hR
        exact dv_of rfl hR.symm
      · skip
        refine ⟨⟨i + 1, by omega, by rw [← hF, if_neg (by simpa using hc)]⟩, by first | (simp only; omega) | omega, ?_⟩
        simp only [updL_nil, updL_cons, delF_top, delF_upd, Nat.reduceEqDiff, reduceIte]
        refine Le.frameS (by first | rfl | (simp only [go_sem]; try rfl)) ?_
        repeat' (first | exact leF_top _ | exact (fun _ => LeR.refl _) | (with_reducible refine leF_sl ?_ ?_) | (refine leF_upd ?_ ?_))
        all_goals (first | exact LeR.top _ | exact LeR.refl _ | (refine LeR.of_eq ?_; (try simp only [go_sem]); try rfl) | ((try simp only [go_sem]); try rfl))
    · have g3 : decide ((i : Int) < (ds.length : Int)) = false := decide_eq_false (by omega)
      rw [List.drop_eq_nil_of_le (by omega), rkBad] at hF
      · have hr := hF.symm
        rw [if_neg (by rw [← hF]; simp)] at hR
        repeat' (first
          | with_reducible refine t_seq fun K => ?_
          | with_reducible refine t_block ?_
          | with_reducible refine t_scope ?_
          | with_reducible refine t_label ?_
          | with_reducible refine t_skip ?_
          | with_reducible refine t_exit ?_
          | with_reducible refine t_ret ?_
          | with_reducible refine t_k ?_
          | (with_reducible refine t_gF ?_)
          | ((first | with_reducible refine t_kE (t_openE ?_) | with_reducible refine t_kD (t_openD ?_) | with_reducible refine t_kE ?_ | with_reducible refine t_kD ?_ | with_reducible refine t_gS ?_ | with_reducible refine t_kL ?_ | (with_reducible refine t_kLE ?_ ?_; rotate_left) | with_reducible refine t_region fun K => ?_ | with_reducible refine t_draw (by kernel_rfl) fun K => ?_); (try (first | refine t_hideE fun KL => ?_ | refine t_hideD fun KL => ?_)); simp only [go_sem, geff_true, geff_false, kp53, g3, Int.toNat_natCast, con76_f, con51_f, con30b_f, con84_f, con76_c, con51_c, con30b_c, con84_c, ils_length, slK_sl, hG2, hRk, rkV_def, szV_def])
          | (with_reducible exact kp_nil)
          | (with_reducible exact Kp.refl _)
          | (with_reducible exact kp_to)
          | (with_reducible refine kp_cons ?_)
          | (with_reducible refine kp_arr ?_)
          | (with_reducible refine kp_app ?_)
          | ((with_reducible refine kp_skip ?_ ?_); rfl)
          | ((with_reducible refine t_cond fun A B => ?_); simp only [go_sem, geff_true, geff_false, kp53, g3, Int.toNat_natCast, con76_f, con51_f, con30b_f, con84_f, con76_c, con51_c, con30b_c, con84_c, ils_length, slK_sl, hG2, hRk, rkV_def, szV_def]; first | (with_reducible refine A.h ?_) | (with_reducible refine B.h ?_) | (refine And.intro (fun hc => A.h ?_) (fun hc => B.h ?_)))
          | ((with_reducible refine t_geffS (fun hg => ?_) (fun hg => ?_)) <;> ((try simp only [Bool.not_eq_true', Bool.not_eq_false', Bool.and_eq_true, Bool.or_eq_false_iff] at hg); simp only [hg, go_sem, geff_true, geff_false, kp53, g3, Int.toNat_natCast, con76_f, con51_f, con30b_f, con84_f, con76_c, con51_c, con30b_c, con84_c, ils_length, slK_sl, hG2, hRk, rkV_def, szV_def]))
          | simp only [thenQ_n, thenQ_r, thenQ_e, blockQ_n, blockQ_r, blockQ_e, scopeQ_n, scopeQ_r, scopeQ_e, Nat.reduceEqDiff, reduceIte]
          | (with_reducible refine And.intro ?_ ?_)
          | with_reducible intro vr)
        all_goals try (first | (with_reducible assumption) | (intros; (try simp only [Bool.and_eq_true, Bool.or_eq_true, Bool.or_eq_false_iff, Bool.not_eq_true', Bool.not_eq_false', decide_eq_true_eq, decide_eq_false_iff_not, beq_iff_eq, beq_eq_false_iff_ne, bne_iff_ne, bne_eq_false_iff_eq, ne_eq, inI64, List.length_append] at *) <;> omega))
        refine t_loopF (ι := { i : Nat // i ≤ ds.length ∧ szErr (ds.drop i) = szErr ds }) (fun i => [(14, .lit (.int .i64 i.1))]) (fun i => []) (fun i => ds.length - i.1) ⟨0, by omega, rfl⟩ ?_ ?_
        · simp only [updL_nil, updL_cons, delF_top, delF_upd, Nat.reduceEqDiff, reduceIte]
          refine Le.frameS (by first | rfl | (simp only [go_sem]; try rfl)) ?_
          repeat' (first | exact leF_top _ | exact (fun _ => LeR.refl _) | (with_reducible refine leF_sl ?_ ?_) | (refine leF_upd ?_ ?_))
          all_goals (first | exact LeR.top _ | exact LeR.refl _ | (refine LeR.of_eq ?_; (try simp only [go_sem]); try rfl) | ((try simp only [go_sem]); try rfl))
        rintro ⟨j, hj, hF2⟩ K1
        rcases Nat.lt_or_ge j ds.length with hc | hc
        · rw [drop_getD [] hc, szErr] at hF2
          have g4 : decide ((j : Int) < (ds.length : Int)) = true := decide_eq_true (by omega)
          repeat' (first
            | with_reducible refine t_seq fun K => ?_
            | with_reducible refine t_block ?_
            | with_reducible refine t_scope ?_
            | with_reducible refine t_label ?_
            | with_reducible refine t_skip ?_
            | with_reducible refine t_exit ?_
            | with_reducible refine t_ret ?_
            | with_reducible refine t_k ?_
            | (with_reducible refine t_gF ?_)
            | ((first | with_reducible refine t_kE (t_openE ?_) | with_reducible refine t_kD (t_openD ?_) | with_reducible refine t_kE ?_ | with_reducible refine t_kD ?_ | with_reducible refine t_gS ?_ | with_reducible refine t_kL ?_ | (with_reducible refine t_kLE ?_ ?_; rotate_left) | with_reducible refine t_region fun K => ?_ | with_reducible refine t_draw (by kernel_rfl) fun K => ?_); (try (first | refine t_hideE fun KL => ?_ | refine t_hideD fun KL => ?_)); simp only [go_sem, geff_true, geff_false, kp53, g4, Int.toNat_natCast, con76_f, con51_f, con30b_f, con84_f, con76_c, con51_c, con30b_c, con84_c, ils_length, slK_sl, hG2, hRk, rkV_def, szV_def])
            | (with_reducible exact kp_nil)
            | (with_reducible exact Kp.refl _)
            | (with_reducible exact kp_to)
            | (with_reducible refine kp_cons ?_)
            | (with_reducible refine kp_arr ?_)
            | (with_reducible refine kp_app ?_)
            | ((with_reducible refine kp_skip ?_ ?_); rfl)
            | ((with_reducible refine t_cond fun A B => ?_); simp only [go_sem, geff_true, geff_false, kp53, g4, Int.toNat_natCast, con76_f, con51_f, con30b_f, con84_f, con76_c, con51_c, con30b_c, con84_c, ils_length, slK_sl, hG2, hRk, rkV_def, szV_def]; first | (with_reducible refine A.h ?_) | (with_reducible refine B.h ?_) | (refine And.intro (fun hc => A.h ?_) (fun hc => B.h ?_)))
            | ((with_reducible refine t_geffS (fun hg => ?_) (fun hg => ?_)) <;> ((try simp only [Bool.not_eq_true', Bool.not_eq_false', Bool.and_eq_true, Bool.or_eq_false_iff] at hg); simp only [hg, go_sem, geff_true, geff_false, kp53, g4, Int.toNat_natCast, con76_f, con51_f, con30b_f, con84_f, con76_c, con51_c, con30b_c, con84_c, ils_length, slK_sl, hG2, hRk, rkV_def, szV_def]))
            | simp only [thenQ_n, thenQ_r, thenQ_e, blockQ_n, blockQ_r, blockQ_e, scopeQ_n, scopeQ_r, scopeQ_e, Nat.reduceEqDiff, reduceIte]
            | (with_reducible refine And.intro ?_ ?_)
            | with_reducible intro vr)
          all_goals try (first | (with_reducible assumption) | (intros; (try simp only [Bool.and_eq_true, Bool.or_eq_true, Bool.or_eq_false_iff, Bool.not_eq_true', Bool.not_eq_false', decide_eq_true_eq, decide_eq_false_iff_not, beq_iff_eq, beq_eq_false_iff_ne, bne_iff_ne, bne_eq_false_iff_eq, ne_eq, inI64, List.length_append] at *) <;> omega))
          · skip
            all_goals ((first | refine end_retE ?_ | refine end_normE ?_); simp only [fin, go_sem])
            rw [if_pos (by simpa using hc)] at hF2
            rw [if_pos (by rw [← hF2]; simpa using hc), ← hF2] at hR
            exact dv_of rfl hR.symm
          · skip
            refine ⟨⟨j + 1, by omega, by rw [← hF2, if_neg (by simpa using hc)]⟩, by first | (simp only; omega) | omega, ?_⟩
            simp only [updL_nil, updL_cons, delF_top, delF_upd, Nat.reduceEqDiff, reduceIte]
            refine Le.frameS (by first | rfl | (simp only [go_sem]; try rfl)) ?_
            repeat' (first | exact leF_top _ | exact (fun _ => LeR.refl _) | (with_reducible refine leF_sl ?_ ?_) | (refine leF_upd ?_ ?_))
            all_goals (first | exact LeR.top _ | exact LeR.refl _ | (refine LeR.of_eq ?_; (try simp only [go_sem]); try rfl) | ((try simp only [go_sem]); try rfl))
        · have g4 : decide ((j : Int) < (ds.length : Int)) = false := decide_eq_false (by omega)
          rw [List.drop_eq_nil_of_le (by omega), szErr] at hF2
          rw [if_neg (by rw [← hF2]; simp)] at hR
          have hbd := ofSz hF2.symm
          obtain rfl : j = ds.length := by omega
          rcases op_cases op with rfl | rfl | rfl | rfl | rfl | rfl | rfl | rfl | rfl | rfl | rfl | rfl | rfl | hno
          · skip
            have e3 : sizedS n_iota = true := rfl
            obtain rfl := giv_e hfs (show findS n_iota ds.length = (ents.getD 0 ent0, true) from rfl)
            simp only [ents, List.getD_cons_zero, List.getD_cons_succ, wantS] at hl hw hR hr hRk
            obtain rfl := shape0 hl
            obtain ⟨k, rfl⟩ := len1' (a := ns) (by simpa using hw)
            obtain rfl : num = 0 := by rcases hnum with h | h; exact h; cases h
            simp only [dimsOf, Option.getD_some, dimsS, sizeK, List.getD_cons_zero, List.getD_cons_succ, List.getD_nil, reduceCtorEq, if_false, reduceIte, partS, maxI] at hR
            repeat' (first
              | with_reducible refine t_seq fun K => ?_
              | with_reducible refine t_block ?_
              | with_reducible refine t_scope ?_
              | with_reducible refine t_label ?_
              | with_reducible refine t_skip ?_
              | with_reducible refine t_exit ?_
              | with_reducible refine t_ret ?_
              | with_reducible refine t_k ?_
              | (with_reducible refine t_gF ?_)
              | ((first | with_reducible refine t_kE (t_openE ?_) | with_reducible refine t_kD (t_openD ?_) | with_reducible refine t_kE ?_ | with_reducible refine t_kD ?_ | with_reducible refine t_gS ?_ | with_reducible refine t_kL ?_ | (with_reducible refine t_kLE ?_ ?_; rotate_left) | with_reducible refine t_region fun K => ?_ | with_reducible refine t_draw (by kernel_rfl) fun K => ?_); (try (first | refine t_hideE fun KL => ?_ | refine t_hideD fun KL => ?_)); simp only [go_sem, geff_true, geff_false, kp53, g4, Int.toNat_natCast, e3, con76_f, con51_f, con30b_f, con84_f, con76_c, con51_c, con30b_c, con84_c, ils_length, slK_sl, hG2, hRk, rkV_def, szV_def, z0_0, z0_1, z0_2, z0_3, z0_4, z0_5, z0_6, z0_7, z0_8, z0_9, z0_10, z0_11, z0_12, List.length_replicate])
              | (with_reducible exact kp_nil)
              | (with_reducible exact Kp.refl _)
              | (with_reducible exact kp_to)
              | (with_reducible refine kp_cons ?_)
              | (with_reducible refine kp_arr ?_)
              | (with_reducible refine kp_app ?_)
              | ((with_reducible refine kp_skip ?_ ?_); rfl)
              | ((with_reducible refine t_cond fun A B => ?_); simp only [go_sem, geff_true, geff_false, kp53, g4, Int.toNat_natCast, e3, con76_f, con51_f, con30b_f, con84_f, con76_c, con51_c, con30b_c, con84_c, ils_length, slK_sl, hG2, hRk, rkV_def, szV_def, z0_0, z0_1, z0_2, z0_3, z0_4, z0_5, z0_6, z0_7, z0_8, z0_9, z0_10, z0_11, z0_12, List.length_replicate]; first | (with_reducible refine A.h ?_) | (with_reducible refine B.h ?_) | (refine And.intro (fun hc => A.h ?_) (fun hc => B.h ?_)))
              | ((with_reducible refine t_geffS (fun hg => ?_) (fun hg => ?_)) <;> ((try simp only [Bool.not_eq_true', Bool.not_eq_false', Bool.and_eq_true, Bool.or_eq_false_iff] at hg); simp only [hg, go_sem, geff_true, geff_false, kp53, g4, Int.toNat_natCast, e3, con76_f, con51_f, con30b_f, con84_f, con76_c, con51_c, con30b_c, con84_c, ils_length, slK_sl, hG2, hRk, rkV_def, szV_def, z0_0, z0_1, z0_2, z0_3, z0_4, z0_5, z0_6, z0_7, z0_8, z0_9, z0_10, z0_11, z0_12, List.length_replicate]))
              | simp only [thenQ_n, thenQ_r, thenQ_e, blockQ_n, blockQ_r, blockQ_e, scopeQ_n, scopeQ_r, scopeQ_e, Nat.reduceEqDiff, reduceIte]
              | (with_reducible refine And.intro ?_ ?_)
              | with_reducible intro vr)
            all_goals try (first | (with_reducible assumption) | (intros; (try simp only [Bool.and_eq_true, Bool.or_eq_true, Bool.or_eq_false_iff, Bool.not_eq_true', Bool.not_eq_false', decide_eq_true_eq, decide_eq_false_iff_not, beq_iff_eq, beq_eq_false_iff_ne, bne_iff_ne, bne_eq_false_iff_eq, ne_eq, inI64, List.length_append] at *) <;> omega))
            all_goals ((first | refine end_retE ?_ | refine end_normE ?_); simp only [fin, go_sem])
            all_goals refine dv_of (by first | exact slK_sl | rfl) ?_
            all_goals rw [← hR]
            all_goals (first | (simp_all; done) | (simp_all; omega) | ((repeat' split) <;> simp_all <;> omega) | trace_state)
          · skip
            have e3 : sizedS n_fill = true := rfl
            obtain rfl := giv_e hfs (show findS n_fill ds.length = (ents.getD 1 ent0, true) from rfl)
            simp only [ents, List.getD_cons_zero, List.getD_cons_succ, wantS] at hl hw hR hr hRk
            obtain ⟨a, rfl, la⟩ := shape1 hl hr
            obtain rfl := len0 la
            skip
            obtain ⟨k, rfl⟩ := len1' (a := ns) (by simpa using hw)
            obtain rfl : num = 0 := by rcases hnum with h | h; exact h; cases h
            simp only [dimsOf, Option.getD_some, dimsS, sizeK, List.getD_cons_zero, List.getD_cons_succ, List.getD_nil, reduceCtorEq, if_false, reduceIte, partS, maxI] at hR
            repeat' (first
              | with_reducible refine t_seq fun K => ?_
              | with_reducible refine t_block ?_
              | with_reducible refine t_scope ?_
              | with_reducible refine t_label ?_
              | with_reducible refine t_skip ?_
              | with_reducible refine t_exit ?_
              | with_reducible refine t_ret ?_
              | with_reducible refine t_k ?_
              | (with_reducible refine t_gF ?_)
              | ((first | with_reducible refine t_kE (t_openE ?_) | with_reducible refine t_kD (t_openD ?_) | with_reducible refine t_kE ?_ | with_reducible refine t_kD ?_ | with_reducible refine t_gS ?_ | with_reducible refine t_kL ?_ | (with_reducible refine t_kLE ?_ ?_; rotate_left) | with_reducible refine t_region fun K => ?_ | with_reducible refine t_draw (by kernel_rfl) fun K => ?_); (try (first | refine t_hideE fun KL => ?_ | refine t_hideD fun KL => ?_)); simp only [go_sem, geff_true, geff_false, kp53, g4, Int.toNat_natCast, e3, con76_f, con51_f, con30b_f, con84_f, con76_c, con51_c, con30b_c, con84_c, ils_length, slK_sl, hG2, hRk, rkV_def, szV_def, z1_0, z1_1, z1_2, z1_3, z1_4, z1_5, z1_6, z1_7, z1_8, z1_9, z1_10, z1_11, z1_12, List.length_replicate])
              | (with_reducible exact kp_nil)
              | (with_reducible exact Kp.refl _)
              | (with_reducible exact kp_to)
              | (with_reducible refine kp_cons ?_)
              | (with_reducible refine kp_arr ?_)
              | (with_reducible refine kp_app ?_)
              | ((with_reducible refine kp_skip ?_ ?_); rfl)
              | ((with_reducible refine t_cond fun A B => ?_); simp only [go_sem, geff_true, geff_false, kp53, g4, Int.toNat_natCast, e3, con76_f, con51_f, con30b_f, con84_f, con76_c, con51_c, con30b_c, con84_c, ils_length, slK_sl, hG2, hRk, rkV_def, szV_def, z1_0, z1_1, z1_2, z1_3, z1_4, z1_5, z1_6, z1_7, z1_8, z1_9, z1_10, z1_11, z1_12, List.length_replicate]; first | (with_reducible refine A.h ?_) | (with_reducible refine B.h ?_) | (refine And.intro (fun hc => A.h ?_) (fun hc => B.h ?_)))
              | ((with_reducible refine t_geffS (fun hg => ?_) (fun hg => ?_)) <;> ((try simp only [Bool.not_eq_true', Bool.not_eq_false', Bool.and_eq_true, Bool.or_eq_false_iff] at hg); simp only [hg, go_sem, geff_true, geff_false, kp53, g4, Int.toNat_natCast, e3, con76_f, con51_f, con30b_f, con84_f, con76_c, con51_c, con30b_c, con84_c, ils_length, slK_sl, hG2, hRk, rkV_def, szV_def, z1_0, z1_1, z1_2, z1_3, z1_4, z1_5, z1_6, z1_7, z1_8, z1_9, z1_10, z1_11, z1_12, List.length_replicate]))
              | simp only [thenQ_n, thenQ_r, thenQ_e, blockQ_n, blockQ_r, blockQ_e, scopeQ_n, scopeQ_r, scopeQ_e, Nat.reduceEqDiff, reduceIte]
              | (with_reducible refine And.intro ?_ ?_)
              | with_reducible intro vr)
            all_goals try (first | (with_reducible assumption) | (intros; (try simp only [Bool.and_eq_true, Bool.or_eq_true, Bool.or_eq_false_iff, Bool.not_eq_true', Bool.not_eq_false', decide_eq_true_eq, decide_eq_false_iff_not, beq_iff_eq, beq_eq_false_iff_ne, bne_iff_ne, bne_eq_false_iff_eq, ne_eq, inI64, List.length_append] at *) <;> omega))
            all_goals ((first | refine end_retE ?_ | refine end_normE ?_); simp only [fin, go_sem])
            all_goals refine dv_of (by first | exact slK_sl | rfl) ?_
            all_goals rw [← hR]
            all_goals (first | (simp_all; done) | (simp_all; omega) | ((repeat' split) <;> simp_all <;> omega) | trace_state)
          · skip
            have e3 : sizedS n_take = true := rfl
            obtain rfl := giv_e hfs (show findS n_take ds.length = (ents.getD 2 ent0, true) from rfl)
            simp only [ents, List.getD_cons_zero, List.getD_cons_succ, wantS] at hl hw hR hr hRk
            obtain ⟨a, rfl, la⟩ := shape1 hl hr
            obtain ⟨a1, rfl⟩ := len1' la
            have ba0 := ilBd_get hbd 0 0
            simp only [List.getD_cons_zero, List.getD_cons_succ] at ba0
            obtain ⟨k, rfl⟩ := len1' (a := ns) (by simpa using hw)
            obtain rfl : num = 0 := by rcases hnum with h | h; exact h; cases h
            simp only [dimsOf, Option.getD_some, dimsS, sizeK, List.getD_cons_zero, List.getD_cons_succ, List.getD_nil, reduceCtorEq, if_false, reduceIte, partS, maxI] at hR
            repeat' (first
              | with_reducible refine t_seq fun K => ?_
              | with_reducible refine t_block ?_
              | with_reducible refine t_scope ?_
              | with_reducible refine t_label ?_
              | with_reducible refine t_skip ?_
              | with_reducible refine t_exit ?_
              | with_reducible refine t_ret ?_
              | with_reducible refine t_k ?_
              | (with_reducible refine t_gF ?_)
              | ((first | with_reducible refine t_kE (t_openE ?_) | with_reducible refine t_kD (t_openD ?_) | with_reducible refine t_kE ?_ | with_reducible refine t_kD ?_ | with_reducible refine t_gS ?_ | with_reducible refine t_kL ?_ | (with_reducible refine t_kLE ?_ ?_; rotate_left) | with_reducible refine t_region fun K => ?_ | with_reducible refine t_draw (by kernel_rfl) fun K => ?_); (try (first | refine t_hideE fun KL => ?_ | refine t_hideD fun KL => ?_)); simp only [go_sem, geff_true, geff_false, kp53, g4, Int.toNat_natCast, e3, con76_f, con51_f, con30b_f, con84_f, con76_c, con51_c, con30b_c, con84_c, ils_length, slK_sl, hG2, hRk, rkV_def, szV_def, z2_0, z2_1, z2_2, z2_3, z2_4, z2_5, z2_6, z2_7, z2_8, z2_9, z2_10, z2_11, z2_12, List.length_replicate])
              | (with_reducible exact kp_nil)
              | (with_reducible exact Kp.refl _)
              | (with_reducible exact kp_to)
              | (with_reducible refine kp_cons ?_)
              | (with_reducible refine kp_arr ?_)
              | (with_reducible refine kp_app ?_)
              | ((with_reducible refine kp_skip ?_ ?_); rfl)
              | ((with_reducible refine t_cond fun A B => ?_); simp only [go_sem, geff_true, geff_false, kp53, g4, Int.toNat_natCast, e3, con76_f, con51_f, con30b_f, con84_f, con76_c, con51_c, con30b_c, con84_c, ils_length, slK_sl, hG2, hRk, rkV_def, szV_def, z2_0, z2_1, z2_2, z2_3, z2_4, z2_5, z2_6, z2_7, z2_8, z2_9, z2_10, z2_11, z2_12, List.length_replicate]; first | (with_reducible refine A.h ?_) | (with_reducible refine B.h ?_) | (refine And.intro (fun hc => A.h ?_) (fun hc => B.h ?_)))
              | ((with_reducible refine t_geffS (fun hg => ?_) (fun hg => ?_)) <;> ((try simp only [Bool.not_eq_true', Bool.not_eq_false', Bool.and_eq_true, Bool.or_eq_false_iff] at hg); simp only [hg, go_sem, geff_true, geff_false, kp53, g4, Int.toNat_natCast, e3, con76_f, con51_f, con30b_f, con84_f, con76_c, con51_c, con30b_c, con84_c, ils_length, slK_sl, hG2, hRk, rkV_def, szV_def, z2_0, z2_1, z2_2, z2_3, z2_4, z2_5, z2_6, z2_7, z2_8, z2_9, z2_10, z2_11, z2_12, List.length_replicate]))
              | simp only [thenQ_n, thenQ_r, thenQ_e, blockQ_n, blockQ_r, blockQ_e, scopeQ_n, scopeQ_r, scopeQ_e, Nat.reduceEqDiff, reduceIte]
              | (with_reducible refine And.intro ?_ ?_)
              | with_reducible intro vr)
            all_goals try (first | (with_reducible assumption) | (intros; (try simp only [Bool.and_eq_true, Bool.or_eq_true, Bool.or_eq_false_iff, Bool.not_eq_true', Bool.not_eq_false', decide_eq_true_eq, decide_eq_false_iff_not, beq_iff_eq, beq_eq_false_iff_ne, bne_iff_ne, bne_eq_false_iff_eq, ne_eq, inI64, List.length_append] at *) <;> omega))
            all_goals ((first | refine end_retE ?_ | refine end_normE ?_); simp only [fin, go_sem])
            all_goals refine dv_of (by first | exact slK_sl | rfl) ?_
            all_goals rw [← hR]
            all_goals (first | (simp_all; done) | (simp_all; omega) | ((repeat' split) <;> simp_all <;> omega) | trace_state)
          · skip
            have e3 : sizedS n_drop = true := rfl
            obtain rfl := giv_e hfs (show findS n_drop ds.length = (ents.getD 3 ent0, true) from rfl)
            simp only [ents, List.getD_cons_zero, List.getD_cons_succ, wantS] at hl hw hR hr hRk
            obtain ⟨a, rfl, la⟩ := shape1 hl hr
            obtain ⟨a1, rfl⟩ := len1' la
            have ba0 := ilBd_get hbd 0 0
            simp only [List.getD_cons_zero, List.getD_cons_succ] at ba0
            obtain ⟨k, rfl⟩ := len1' (a := ns) (by simpa using hw)
            obtain rfl : num = 0 := by rcases hnum with h | h; exact h; cases h
            simp only [dimsOf, Option.getD_some, dimsS, sizeK, List.getD_cons_zero, List.getD_cons_succ, List.getD_nil, reduceCtorEq, if_false, reduceIte, partS, maxI] at hR
            by_cases hk : 0 ≤ k ∧ k ≤ a1
            · have hw1 : w64 (a1 - k) = a1 - k := wrap_i64 (by unfold inI64; omega)
              have hw2 : w64 (a1 - k + 1) = a1 - k + 1 := wrap_i64 (by unfold inI64; omega)
              have k1 : decide (k < 0) = false := decide_eq_false (by omega)
              have k2 : decide (k > a1) = false := decide_eq_false (by omega)
              have k3 : ¬ (k < 0 ∨ k > a1) := by omega
              simp only [hw1, hw2, k3, if_false, ne_eq, not_true_eq_false] at hR
              repeat' (first
                | with_reducible refine t_seq fun K => ?_
                | with_reducible refine t_block ?_
                | with_reducible refine t_scope ?_
                | with_reducible refine t_label ?_
                | with_reducible refine t_skip ?_
                | with_reducible refine t_exit ?_
                | with_reducible refine t_ret ?_
                | with_reducible refine t_k ?_
                | (with_reducible refine t_gF ?_)
                | ((first | with_reducible refine t_kE (t_openE ?_) | with_reducible refine t_kD (t_openD ?_) | with_reducible refine t_kE ?_ | with_reducible refine t_kD ?_ | with_reducible refine t_gS ?_ | with_reducible refine t_kL ?_ | (with_reducible refine t_kLE ?_ ?_; rotate_left) | with_reducible refine t_region fun K => ?_ | with_reducible refine t_draw (by kernel_rfl) fun K => ?_); (try (first | refine t_hideE fun KL => ?_ | refine t_hideD fun KL => ?_)); simp only [go_sem, geff_true, geff_false, kp53, k1, k2, g4, Int.toNat_natCast, e3, con76_f, con51_f, con30b_f, con84_f, con76_c, con51_c, con30b_c, con84_c, ils_length, slK_sl, hG2, hRk, rkV_def, szV_def, z3_0, z3_1, z3_2, z3_3, z3_4, z3_5, z3_6, z3_7, z3_8, z3_9, z3_10, z3_11, z3_12, List.length_replicate])
                | (with_reducible exact kp_nil)
                | (with_reducible exact Kp.refl _)
                | (with_reducible exact kp_to)
                | (with_reducible refine kp_cons ?_)
                | (with_reducible refine kp_arr ?_)
                | (with_reducible refine kp_app ?_)
                | ((with_reducible refine kp_skip ?_ ?_); rfl)
                | ((with_reducible refine t_cond fun A B => ?_); simp only [go_sem, geff_true, geff_false, kp53, k1, k2, g4, Int.toNat_natCast, e3, con76_f, con51_f, con30b_f, con84_f, con76_c, con51_c, con30b_c, con84_c, ils_length, slK_sl, hG2, hRk, rkV_def, szV_def, z3_0, z3_1, z3_2, z3_3, z3_4, z3_5, z3_6, z3_7, z3_8, z3_9, z3_10, z3_11, z3_12, List.length_replicate]; first | (with_reducible refine A.h ?_) | (with_reducible refine B.h ?_) | (refine And.intro (fun hc => A.h ?_) (fun hc => B.h ?_)))
                | ((with_reducible refine t_geffS (fun hg => ?_) (fun hg => ?_)) <;> ((try simp only [Bool.not_eq_true', Bool.not_eq_false', Bool.and_eq_true, Bool.or_eq_false_iff] at hg); simp only [hg, go_sem, geff_true, geff_false, kp53, k1, k2, g4, Int.toNat_natCast, e3, con76_f, con51_f, con30b_f, con84_f, con76_c, con51_c, con30b_c, con84_c, ils_length, slK_sl, hG2, hRk, rkV_def, szV_def, z3_0, z3_1, z3_2, z3_3, z3_4, z3_5, z3_6, z3_7, z3_8, z3_9, z3_10, z3_11, z3_12, List.length_replicate]))
                | simp only [thenQ_n, thenQ_r, thenQ_e, blockQ_n, blockQ_r, blockQ_e, scopeQ_n, scopeQ_r, scopeQ_e, Nat.reduceEqDiff, reduceIte]
                | (with_reducible refine And.intro ?_ ?_)
                | with_reducible intro vr)
              all_goals try (first | (with_reducible assumption) | (intros; (try simp only [Bool.and_eq_true, Bool.or_eq_true, Bool.or_eq_false_iff, Bool.not_eq_true', Bool.not_eq_false', decide_eq_true_eq, decide_eq_false_iff_not, beq_iff_eq, beq_eq_false_iff_ne, bne_iff_ne, bne_eq_false_iff_eq, ne_eq, inI64, List.length_append] at *) <;> omega))
              all_goals ((first | refine end_retE ?_ | refine end_normE ?_); simp only [fin, go_sem])
              all_goals refine dv_of (by first | exact slK_sl | rfl) ?_
              all_goals rw [← hR]
              all_goals (first | (simp_all; done) | (simp_all; omega) | ((repeat' split) <;> simp_all <;> omega) | trace_state)
            · have k3 : k < 0 ∨ k > a1 := by omega
              simp only [k3, if_true, ne_eq, reduceCtorEq, not_false_eq_true] at hR
              by_cases k4 : k < 0
              · have k1 : decide (k < 0) = true := decide_eq_true k4
                repeat' (first
                  | with_reducible refine t_seq fun K => ?_
                  | with_reducible refine t_block ?_
                  | with_reducible refine t_scope ?_
                  | with_reducible refine t_label ?_
                  | with_reducible refine t_skip ?_
                  | with_reducible refine t_exit ?_
                  | with_reducible refine t_ret ?_
                  | with_reducible refine t_k ?_
                  | (with_reducible refine t_gF ?_)
                  | ((first | with_reducible refine t_kE (t_openE ?_) | with_reducible refine t_kD (t_openD ?_) | with_reducible refine t_kE ?_ | with_reducible refine t_kD ?_ | with_reducible refine t_gS ?_ | with_reducible refine t_kL ?_ | (with_reducible refine t_kLE ?_ ?_; rotate_left) | with_reducible refine t_region fun K => ?_ | with_reducible refine t_draw (by kernel_rfl) fun K => ?_); (try (first | refine t_hideE fun KL => ?_ | refine t_hideD fun KL => ?_)); simp only [go_sem, geff_true, geff_false, kp53, k1, g4, Int.toNat_natCast, e3, con76_f, con51_f, con30b_f, con84_f, con76_c, con51_c, con30b_c, con84_c, ils_length, slK_sl, hG2, hRk, rkV_def, szV_def, z3_0, z3_1, z3_2, z3_3, z3_4, z3_5, z3_6, z3_7, z3_8, z3_9, z3_10, z3_11, z3_12, List.length_replicate])
                  | (with_reducible exact kp_nil)
                  | (with_reducible exact Kp.refl _)
                  | (with_reducible exact kp_to)
                  | (with_reducible refine kp_cons ?_)
                  | (with_reducible refine kp_arr ?_)
                  | (with_reducible refine kp_app ?_)
                  | ((with_reducible refine kp_skip ?_ ?_); rfl)
                  | ((with_reducible refine t_cond fun A B => ?_); simp only [go_sem, geff_true, geff_false, kp53, k1, g4, Int.toNat_natCast, e3, con76_f, con51_f, con30b_f, con84_f, con76_c, con51_c, con30b_c, con84_c, ils_length, slK_sl, hG2, hRk, rkV_def, szV_def, z3_0, z3_1, z3_2, z3_3, z3_4, z3_5, z3_6, z3_7, z3_8, z3_9, z3_10, z3_11, z3_12, List.length_replicate]; first | (with_reducible refine A.h ?_) | (with_reducible refine B.h ?_) | (refine And.intro (fun hc => A.h ?_) (fun hc => B.h ?_)))
                  | ((with_reducible refine t_geffS (fun hg => ?_) (fun hg => ?_)) <;> ((try simp only [Bool.not_eq_true', Bool.not_eq_false', Bool.and_eq_true, Bool.or_eq_false_iff] at hg); simp only [hg, go_sem, geff_true, geff_false, kp53, k1, g4, Int.toNat_natCast, e3, con76_f, con51_f, con30b_f, con84_f, con76_c, con51_c, con30b_c, con84_c, ils_length, slK_sl, hG2, hRk, rkV_def, szV_def, z3_0, z3_1, z3_2, z3_3, z3_4, z3_5, z3_6, z3_7, z3_8, z3_9, z3_10, z3_11, z3_12, List.length_replicate]))
                  | simp only [thenQ_n, thenQ_r, thenQ_e, blockQ_n, blockQ_r, blockQ_e, scopeQ_n, scopeQ_r, scopeQ_e, Nat.reduceEqDiff, reduceIte]
                  | (with_reducible refine And.intro ?_ ?_)
                  | with_reducible intro vr)
                all_goals try (first | (with_reducible assumption) | (intros; (try simp only [Bool.and_eq_true, Bool.or_eq_true, Bool.or_eq_false_iff, Bool.not_eq_true', Bool.not_eq_false', decide_eq_true_eq, decide_eq_false_iff_not, beq_iff_eq, beq_eq_false_iff_ne, bne_iff_ne, bne_eq_false_iff_eq, ne_eq, inI64, List.length_append] at *) <;> omega))
                all_goals ((first | refine end_retE ?_ | refine end_normE ?_); simp only [fin, go_sem])
                all_goals refine dv_of (by first | exact slK_sl | rfl) ?_
                all_goals rw [← hR]
                all_goals (first | (simp_all; done) | (simp_all; omega) | ((repeat' split) <;> simp_all <;> omega) | trace_state)
              · have k1 : decide (k < 0) = false := decide_eq_false k4
                have k2 : decide (k > a1) = true := decide_eq_true (by omega)
                repeat' (first
                  | with_reducible refine t_seq fun K => ?_
                  | with_reducible refine t_block ?_
                  | with_reducible refine t_scope ?_
                  | with_reducible refine t_label ?_
                  | with_reducible refine t_skip ?_
                  | with_reducible refine t_exit ?_
                  | with_reducible refine t_ret ?_
                  | with_reducible refine t_k ?_
                  | (with_reducible refine t_gF ?_)
                  | ((first | with_reducible refine t_kE (t_openE ?_) | with_reducible refine t_kD (t_openD ?_) | with_reducible refine t_kE ?_ | with_reducible refine t_kD ?_ | with_reducible refine t_gS ?_ | with_reducible refine t_kL ?_ | (with_reducible refine t_kLE ?_ ?_; rotate_left) | with_reducible refine t_region fun K => ?_ | with_reducible refine t_draw (by kernel_rfl) fun K => ?_); (try (first | refine t_hideE fun KL => ?_ | refine t_hideD fun KL => ?_)); simp only [go_sem, geff_true, geff_false, kp53, k1, k2, g4, Int.toNat_natCast, e3, con76_f, con51_f, con30b_f, con84_f, con76_c, con51_c, con30b_c, con84_c, ils_length, slK_sl, hG2, hRk, rkV_def, szV_def, z3_0, z3_1, z3_2, z3_3, z3_4, z3_5, z3_6, z3_7, z3_8, z3_9, z3_10, z3_11, z3_12, List.length_replicate])
                  | (with_reducible exact kp_nil)
                  | (with_reducible exact Kp.refl _)
                  | (with_reducible exact kp_to)
                  | (with_reducible refine kp_cons ?_)
                  | (with_reducible refine kp_arr ?_)
                  | (with_reducible refine kp_app ?_)
                  | ((with_reducible refine kp_skip ?_ ?_); rfl)
                  | ((with_reducible refine t_cond fun A B => ?_); simp only [go_sem, geff_true, geff_false, kp53, k1, k2, g4, Int.toNat_natCast, e3, con76_f, con51_f, con30b_f, con84_f, con76_c, con51_c, con30b_c, con84_c, ils_length, slK_sl, hG2, hRk, rkV_def, szV_def, z3_0, z3_1, z3_2, z3_3, z3_4, z3_5, z3_6, z3_7, z3_8, z3_9, z3_10, z3_11, z3_12, List.length_replicate]; first | (with_reducible refine A.h ?_) | (with_reducible refine B.h ?_) | (refine And.intro (fun hc => A.h ?_) (fun hc => B.h ?_)))
                  | ((with_reducible refine t_geffS (fun hg => ?_) (fun hg => ?_)) <;> ((try simp only [Bool.not_eq_true', Bool.not_eq_false', Bool.and_eq_true, Bool.or_eq_false_iff] at hg); simp only [hg, go_sem, geff_true, geff_false, kp53, k1, k2, g4, Int.toNat_natCast, e3, con76_f, con51_f, con30b_f, con84_f, con76_c, con51_c, con30b_c, con84_c, ils_length, slK_sl, hG2, hRk, rkV_def, szV_def, z3_0, z3_1, z3_2, z3_3, z3_4, z3_5, z3_6, z3_7, z3_8, z3_9, z3_10, z3_11, z3_12, List.length_replicate]))
                  | simp only [thenQ_n, thenQ_r, thenQ_e, blockQ_n, blockQ_r, blockQ_e, scopeQ_n, scopeQ_r, scopeQ_e, Nat.reduceEqDiff, reduceIte]
                  | (with_reducible refine And.intro ?_ ?_)
                  | with_reducible intro vr)
                all_goals try (first | (with_reducible assumption) | (intros; (try simp only [Bool.and_eq_true, Bool.or_eq_true, Bool.or_eq_false_iff, Bool.not_eq_true', Bool.not_eq_false', decide_eq_true_eq, decide_eq_false_iff_not, beq_iff_eq, beq_eq_false_iff_ne, bne_iff_ne, bne_eq_false_iff_eq, ne_eq, inI64, List.length_append] at *) <;> omega))
                all_goals ((first | refine end_retE ?_ | refine end_normE ?_); simp only [fin, go_sem])
                all_goals refine dv_of (by first | exact slK_sl | rfl) ?_
                all_goals rw [← hR]
                all_goals (first | (simp_all; done) | (simp_all; omega) | ((repeat' split) <;> simp_all <;> omega) | trace_state)
          · skip
            have e3 : sizedS n_reverse = false := rfl
            obtain rfl := giv_e hfs (show findS n_reverse ds.length = (ents.getD 4 ent0, true) from rfl)
            simp only [ents, List.getD_cons_zero, List.getD_cons_succ, wantS] at hl hw hR hr hRk
            obtain ⟨a, rfl, la⟩ := shape1 hl hr
            obtain ⟨a1, rfl⟩ := len1' la
            have ba0 := ilBd_get hbd 0 0
            simp only [List.getD_cons_zero, List.getD_cons_succ] at ba0
            obtain rfl := len0 (a := ns) (by simpa using hw)
            obtain rfl : num = 0 := by rcases hnum with h | h; exact h; cases h
            simp only [dimsOf, Option.getD_some, dimsS, sizeK, List.getD_cons_zero, List.getD_cons_succ, List.getD_nil, reduceCtorEq, if_false, reduceIte, partS, maxI] at hR
            repeat' (first
              | with_reducible refine t_seq fun K => ?_
              | with_reducible refine t_block ?_
              | with_reducible refine t_scope ?_
              | with_reducible refine t_label ?_
              | with_reducible refine t_skip ?_
              | with_reducible refine t_exit ?_
              | with_reducible refine t_ret ?_
              | with_reducible refine t_k ?_
              | (with_reducible refine t_gF ?_)
              | ((first | with_reducible refine t_kE (t_openE ?_) | with_reducible refine t_kD (t_openD ?_) | with_reducible refine t_kE ?_ | with_reducible refine t_kD ?_ | with_reducible refine t_gS ?_ | with_reducible refine t_kL ?_ | (with_reducible refine t_kLE ?_ ?_; rotate_left) | with_reducible refine t_region fun K => ?_ | with_reducible refine t_draw (by kernel_rfl) fun K => ?_); (try (first | refine t_hideE fun KL => ?_ | refine t_hideD fun KL => ?_)); simp only [go_sem, geff_true, geff_false, kp53, g4, Int.toNat_natCast, e3, con76_f, con51_f, con30b_f, con84_f, con76_c, con51_c, con30b_c, con84_c, ils_length, slK_sl, hG2, hRk, rkV_def, szV_def, z4_0, z4_1, z4_2, z4_3, z4_4, z4_5, z4_6, z4_7, z4_8, z4_9, z4_10, z4_11, z4_12, List.length_replicate])
              | (with_reducible exact kp_nil)
              | (with_reducible exact Kp.refl _)
              | (with_reducible exact kp_to)
              | (with_reducible refine kp_cons ?_)
              | (with_reducible refine kp_arr ?_)
              | (with_reducible refine kp_app ?_)
              | ((with_reducible refine kp_skip ?_ ?_); rfl)
              | ((with_reducible refine t_cond fun A B => ?_); simp only [go_sem, geff_true, geff_false, kp53, g4, Int.toNat_natCast, e3, con76_f, con51_f, con30b_f, con84_f, con76_c, con51_c, con30b_c, con84_c, ils_length, slK_sl, hG2, hRk, rkV_def, szV_def, z4_0, z4_1, z4_2, z4_3, z4_4, z4_5, z4_6, z4_7, z4_8, z4_9, z4_10, z4_11, z4_12, List.length_replicate]; first | (with_reducible refine A.h ?_) | (with_reducible refine B.h ?_) | (refine And.intro (fun hc => A.h ?_) (fun hc => B.h ?_)))
              | ((with_reducible refine t_geffS (fun hg => ?_) (fun hg => ?_)) <;> ((try simp only [Bool.not_eq_true', Bool.not_eq_false', Bool.and_eq_true, Bool.or_eq_false_iff] at hg); simp only [hg, go_sem, geff_true, geff_false, kp53, g4, Int.toNat_natCast, e3, con76_f, con51_f, con30b_f, con84_f, con76_c, con51_c, con30b_c, con84_c, ils_length, slK_sl, hG2, hRk, rkV_def, szV_def, z4_0, z4_1, z4_2, z4_3, z4_4, z4_5, z4_6, z4_7, z4_8, z4_9, z4_10, z4_11, z4_12, List.length_replicate]))
              | simp only [thenQ_n, thenQ_r, thenQ_e, blockQ_n, blockQ_r, blockQ_e, scopeQ_n, scopeQ_r, scopeQ_e, Nat.reduceEqDiff, reduceIte]
              | (with_reducible refine And.intro ?_ ?_)
              | with_reducible intro vr)
            all_goals try (first | (with_reducible assumption) | (intros; (try simp only [Bool.and_eq_true, Bool.or_eq_true, Bool.or_eq_false_iff, Bool.not_eq_true', Bool.not_eq_false', decide_eq_true_eq, decide_eq_false_iff_not, beq_iff_eq, beq_eq_false_iff_ne, bne_iff_ne, bne_eq_false_iff_eq, ne_eq, inI64, List.length_append] at *) <;> omega))
            all_goals ((first | refine end_retE ?_ | refine end_normE ?_); simp only [fin, go_sem])
            all_goals refine dv_of (by first | exact slK_sl | rfl) ?_
            all_goals rw [← hR]
            all_goals (first | (simp_all; done) | (simp_all; omega) | ((repeat' split) <;> simp_all <;> omega) | trace_state)
          · skip
            have e3 : sizedS n_append = false := rfl
            obtain rfl := giv_e hfs (show findS n_append ds.length = (ents.getD 5 ent0, true) from rfl)
            simp only [ents, List.getD_cons_zero, List.getD_cons_succ, wantS] at hl hw hR hr hRk
            obtain ⟨a, b, rfl, la, lb⟩ := shape2 hl hr
            obtain ⟨a1, rfl⟩ := len1' la
            have ba0 := ilBd_get hbd 0 0
            obtain ⟨b1, rfl⟩ := len1' lb
            have bb0 := ilBd_get hbd 1 0
            simp only [List.getD_cons_zero, List.getD_cons_succ] at ba0 bb0
            obtain rfl := len0 (a := ns) (by simpa using hw)
            obtain rfl : num = 0 := by rcases hnum with h | h; exact h; cases h
            simp only [dimsOf, Option.getD_some, dimsS, sizeK, List.getD_cons_zero, List.getD_cons_succ, List.getD_nil, reduceCtorEq, if_false, reduceIte, partS, maxI] at hR
            repeat' (first
              | with_reducible refine t_seq fun K => ?_
              | with_reducible refine t_block ?_
              | with_reducible refine t_scope ?_
              | with_reducible refine t_label ?_
              | with_reducible refine t_skip ?_
              | with_reducible refine t_exit ?_
              | with_reducible refine t_ret ?_
              | with_reducible refine t_k ?_
              | (with_reducible refine t_gF ?_)
              | ((first | with_reducible refine t_kE (t_openE ?_) | with_reducible refine t_kD (t_openD ?_) | with_reducible refine t_kE ?_ | with_reducible refine t_kD ?_ | with_reducible refine t_gS ?_ | with_reducible refine t_kL ?_ | (with_reducible refine t_kLE ?_ ?_; rotate_left) | with_reducible refine t_region fun K => ?_ | with_reducible refine t_draw (by kernel_rfl) fun K => ?_); (try (first | refine t_hideE fun KL => ?_ | refine t_hideD fun KL => ?_)); simp only [go_sem, geff_true, geff_false, kp53, g4, Int.toNat_natCast, e3, con76_f, con51_f, con30b_f, con84_f, con76_c, con51_c, con30b_c, con84_c, ils_length, slK_sl, hG2, hRk, rkV_def, szV_def, z5_0, z5_1, z5_2, z5_3, z5_4, z5_5, z5_6, z5_7, z5_8, z5_9, z5_10, z5_11, z5_12, List.length_replicate])
              | (with_reducible exact kp_nil)
              | (with_reducible exact Kp.refl _)
              | (with_reducible exact kp_to)
              | (with_reducible refine kp_cons ?_)
              | (with_reducible refine kp_arr ?_)
              | (with_reducible refine kp_app ?_)
              | ((with_reducible refine kp_skip ?_ ?_); rfl)
              | ((with_reducible refine t_cond fun A B => ?_); simp only [go_sem, geff_true, geff_false, kp53, g4, Int.toNat_natCast, e3, con76_f, con51_f, con30b_f, con84_f, con76_c, con51_c, con30b_c, con84_c, ils_length, slK_sl, hG2, hRk, rkV_def, szV_def, z5_0, z5_1, z5_2, z5_3, z5_4, z5_5, z5_6, z5_7, z5_8, z5_9, z5_10, z5_11, z5_12, List.length_replicate]; first | (with_reducible refine A.h ?_) | (with_reducible refine B.h ?_) | (refine And.intro (fun hc => A.h ?_) (fun hc => B.h ?_)))
              | ((with_reducible refine t_geffS (fun hg => ?_) (fun hg => ?_)) <;> ((try simp only [Bool.not_eq_true', Bool.not_eq_false', Bool.and_eq_true, Bool.or_eq_false_iff] at hg); simp only [hg, go_sem, geff_true, geff_false, kp53, g4, Int.toNat_natCast, e3, con76_f, con51_f, con30b_f, con84_f, con76_c, con51_c, con30b_c, con84_c, ils_length, slK_sl, hG2, hRk, rkV_def, szV_def, z5_0, z5_1, z5_2, z5_3, z5_4, z5_5, z5_6, z5_7, z5_8, z5_9, z5_10, z5_11, z5_12, List.length_replicate]))
              | simp only [thenQ_n, thenQ_r, thenQ_e, blockQ_n, blockQ_r, blockQ_e, scopeQ_n, scopeQ_r, scopeQ_e, Nat.reduceEqDiff, reduceIte]
              | (with_reducible refine And.intro ?_ ?_)
              | with_reducible intro vr)
            all_goals try (first | (with_reducible assumption) | (intros; (try simp only [Bool.and_eq_true, Bool.or_eq_true, Bool.or_eq_false_iff, Bool.not_eq_true', Bool.not_eq_false', decide_eq_true_eq, decide_eq_false_iff_not, beq_iff_eq, beq_eq_false_iff_ne, bne_iff_ne, bne_eq_false_iff_eq, ne_eq, inI64, List.length_append] at *) <;> omega))
            all_goals ((first | refine end_retE ?_ | refine end_normE ?_); simp only [fin, go_sem])
            all_goals refine dv_of (by first | exact slK_sl | rfl) ?_
            all_goals rw [← hR]
            all_goals (first | (simp_all; done) | (simp_all; omega) | ((repeat' split) <;> simp_all <;> omega) | trace_state)
          · skip
            have e3 : sizedS n_transpose = false := rfl
            obtain rfl := giv_e hfs (show findS n_transpose ds.length = (ents.getD 6 ent0, true) from rfl)
            simp only [ents, List.getD_cons_zero, List.getD_cons_succ, wantS] at hl hw hR hr hRk
            obtain ⟨a, rfl, la⟩ := shape1 hl hr
            obtain ⟨a1, a2, rfl⟩ := len2' la
            have ba0 := ilBd_get hbd 0 0
            have ba1 := ilBd_get hbd 0 1
            simp only [List.getD_cons_zero, List.getD_cons_succ] at ba0 ba1
            obtain rfl := len0 (a := ns) (by simpa using hw)
            obtain rfl : num = 0 := by rcases hnum with h | h; exact h; cases h
            simp only [dimsOf, Option.getD_some, dimsS, sizeK, List.getD_cons_zero, List.getD_cons_succ, List.getD_nil, reduceCtorEq, if_false, reduceIte, partS, maxI] at hR
            repeat' (first
              | with_reducible refine t_seq fun K => ?_
              | with_reducible refine t_block ?_
              | with_reducible refine t_scope ?_
              | with_reducible refine t_label ?_
              | with_reducible refine t_skip ?_
              | with_reducible refine t_exit ?_
              | with_reducible refine t_ret ?_
              | with_reducible refine t_k ?_
              | (with_reducible refine t_gF ?_)
              | ((first | with_reducible refine t_kE (t_openE ?_) | with_reducible refine t_kD (t_openD ?_) | with_reducible refine t_kE ?_ | with_reducible refine t_kD ?_ | with_reducible refine t_gS ?_ | with_reducible refine t_kL ?_ | (with_reducible refine t_kLE ?_ ?_; rotate_left) | with_reducible refine t_region fun K => ?_ | with_reducible refine t_draw (by kernel_rfl) fun K => ?_); (try (first | refine t_hideE fun KL => ?_ | refine t_hideD fun KL => ?_)); simp only [go_sem, geff_true, geff_false, kp53, g4, Int.toNat_natCast, e3, con76_f, con51_f, con30b_f, con84_f, con76_c, con51_c, con30b_c, con84_c, ils_length, slK_sl, hG2, hRk, rkV_def, szV_def, z6_0, z6_1, z6_2, z6_3, z6_4, z6_5, z6_6, z6_7, z6_8, z6_9, z6_10, z6_11, z6_12, List.length_replicate])
              | (with_reducible exact kp_nil)
              | (with_reducible exact Kp.refl _)
              | (with_reducible exact kp_to)
              | (with_reducible refine kp_cons ?_)
              | (with_reducible refine kp_arr ?_)
              | (with_reducible refine kp_app ?_)
              | ((with_reducible refine kp_skip ?_ ?_); rfl)
              | ((with_reducible refine t_cond fun A B => ?_); simp only [go_sem, geff_true, geff_false, kp53, g4, Int.toNat_natCast, e3, con76_f, con51_f, con30b_f, con84_f, con76_c, con51_c, con30b_c, con84_c, ils_length, slK_sl, hG2, hRk, rkV_def, szV_def, z6_0, z6_1, z6_2, z6_3, z6_4, z6_5, z6_6, z6_7, z6_8, z6_9, z6_10, z6_11, z6_12, List.length_replicate]; first | (with_reducible refine A.h ?_) | (with_reducible refine B.h ?_) | (refine And.intro (fun hc => A.h ?_) (fun hc => B.h ?_)))
              | ((with_reducible refine t_geffS (fun hg => ?_) (fun hg => ?_)) <;> ((try simp only [Bool.not_eq_true', Bool.not_eq_false', Bool.and_eq_true, Bool.or_eq_false_iff] at hg); simp only [hg, go_sem, geff_true, geff_false, kp53, g4, Int.toNat_natCast, e3, con76_f, con51_f, con30b_f, con84_f, con76_c, con51_c, con30b_c, con84_c, ils_length, slK_sl, hG2, hRk, rkV_def, szV_def, z6_0, z6_1, z6_2, z6_3, z6_4, z6_5, z6_6, z6_7, z6_8, z6_9, z6_10, z6_11, z6_12, List.length_replicate]))
              | simp only [thenQ_n, thenQ_r, thenQ_e, blockQ_n, blockQ_r, blockQ_e, scopeQ_n, scopeQ_r, scopeQ_e, Nat.reduceEqDiff, reduceIte]
              | (with_reducible refine And.intro ?_ ?_)
              | with_reducible intro vr)
            all_goals try (first | (with_reducible assumption) | (intros; (try simp only [Bool.and_eq_true, Bool.or_eq_true, Bool.or_eq_false_iff, Bool.not_eq_true', Bool.not_eq_false', decide_eq_true_eq, decide_eq_false_iff_not, beq_iff_eq, beq_eq_false_iff_ne, bne_iff_ne, bne_eq_false_iff_eq, ne_eq, inI64, List.length_append] at *) <;> omega))
            all_goals ((first | refine end_retE ?_ | refine end_normE ?_); simp only [fin, go_sem])
            all_goals refine dv_of (by first | exact slK_sl | rfl) ?_
            all_goals rw [← hR]
            all_goals (first | (simp_all; done) | (simp_all; omega) | ((repeat' split) <;> simp_all <;> omega) | trace_state)
          · skip
            have e3 : sizedS n_diagonal = false := rfl
            obtain rfl := giv_e hfs (show findS n_diagonal ds.length = (ents.getD 7 ent0, true) from rfl)
            simp only [ents, List.getD_cons_zero, List.getD_cons_succ, wantS] at hl hw hR hr hRk
            obtain ⟨a, rfl, la⟩ := shape1 hl hr
            obtain ⟨a1, a2, rfl⟩ := len2' la
            have ba0 := ilBd_get hbd 0 0
            have ba1 := ilBd_get hbd 0 1
            simp only [List.getD_cons_zero, List.getD_cons_succ] at ba0 ba1
            obtain rfl := len0 (a := ns) (by simpa using hw)
            obtain rfl : num = 0 := by rcases hnum with h | h; exact h; cases h
            simp only [dimsOf, Option.getD_some, dimsS, sizeK, List.getD_cons_zero, List.getD_cons_succ, List.getD_nil, reduceCtorEq, if_false, reduceIte, partS, maxI] at hR
            repeat' (first
              | with_reducible refine t_seq fun K => ?_
              | with_reducible refine t_block ?_
              | with_reducible refine t_scope ?_
              | with_reducible refine t_label ?_
              | with_reducible refine t_skip ?_
              | with_reducible refine t_exit ?_
              | with_reducible refine t_ret ?_
              | with_reducible refine t_k ?_
              | (with_reducible refine t_gF ?_)
              | ((first | with_reducible refine t_kE (t_openE ?_) | with_reducible refine t_kD (t_openD ?_) | with_reducible refine t_kE ?_ | with_reducible refine t_kD ?_ | with_reducible refine t_gS ?_ | with_reducible refine t_kL ?_ | (with_reducible refine t_kLE ?_ ?_; rotate_left) | with_reducible refine t_region fun K => ?_ | with_reducible refine t_draw (by kernel_rfl) fun K => ?_); (try (first | refine t_hideE fun KL => ?_ | refine t_hideD fun KL => ?_)); simp only [go_sem, geff_true, geff_false, kp53, g4, Int.toNat_natCast, e3, con76_f, con51_f, con30b_f, con84_f, con76_c, con51_c, con30b_c, con84_c, ils_length, slK_sl, hG2, hRk, rkV_def, szV_def, z7_0, z7_1, z7_2, z7_3, z7_4, z7_5, z7_6, z7_7, z7_8, z7_9, z7_10, z7_11, z7_12, List.length_replicate])
              | (with_reducible exact kp_nil)
              | (with_reducible exact Kp.refl _)
              | (with_reducible exact kp_to)
              | (with_reducible refine kp_cons ?_)
              | (with_reducible refine kp_arr ?_)
              | (with_reducible refine kp_app ?_)
              | ((with_reducible refine kp_skip ?_ ?_); rfl)
              | ((with_reducible refine t_cond fun A B => ?_); simp only [go_sem, geff_true, geff_false, kp53, g4, Int.toNat_natCast, e3, con76_f, con51_f, con30b_f, con84_f, con76_c, con51_c, con30b_c, con84_c, ils_length, slK_sl, hG2, hRk, rkV_def, szV_def, z7_0, z7_1, z7_2, z7_3, z7_4, z7_5, z7_6, z7_7, z7_8, z7_9, z7_10, z7_11, z7_12, List.length_replicate]; first | (with_reducible refine A.h ?_) | (with_reducible refine B.h ?_) | (refine And.intro (fun hc => A.h ?_) (fun hc => B.h ?_)))
              | ((with_reducible refine t_geffS (fun hg => ?_) (fun hg => ?_)) <;> ((try simp only [Bool.not_eq_true', Bool.not_eq_false', Bool.and_eq_true, Bool.or_eq_false_iff] at hg); simp only [hg, go_sem, geff_true, geff_false, kp53, g4, Int.toNat_natCast, e3, con76_f, con51_f, con30b_f, con84_f, con76_c, con51_c, con30b_c, con84_c, ils_length, slK_sl, hG2, hRk, rkV_def, szV_def, z7_0, z7_1, z7_2, z7_3, z7_4, z7_5, z7_6, z7_7, z7_8, z7_9, z7_10, z7_11, z7_12, List.length_replicate]))
              | simp only [thenQ_n, thenQ_r, thenQ_e, blockQ_n, blockQ_r, blockQ_e, scopeQ_n, scopeQ_r, scopeQ_e, Nat.reduceEqDiff, reduceIte]
              | (with_reducible refine And.intro ?_ ?_)
              | with_reducible intro vr)
            all_goals try (first | (with_reducible assumption) | (intros; (try simp only [Bool.and_eq_true, Bool.or_eq_true, Bool.or_eq_false_iff, Bool.not_eq_true', Bool.not_eq_false', decide_eq_true_eq, decide_eq_false_iff_not, beq_iff_eq, beq_eq_false_iff_ne, bne_iff_ne, bne_eq_false_iff_eq, ne_eq, inI64, List.length_append] at *) <;> omega))
            all_goals ((first | refine end_retE ?_ | refine end_normE ?_); simp only [fin, go_sem])
            all_goals refine dv_of (by first | exact slK_sl | rfl) ?_
            all_goals rw [← hR]
            all_goals (first | (simp_all; done) | (simp_all; omega) | ((repeat' split) <;> simp_all <;> omega) | trace_state)
          · skip
            have e3 : sizedS n_windows = true := rfl
            obtain rfl := giv_e hfs (show findS n_windows ds.length = (ents.getD 8 ent0, true) from rfl)
            simp only [ents, List.getD_cons_zero, List.getD_cons_succ, wantS] at hl hw hR hr hRk
            obtain ⟨a, rfl, la⟩ := shape1 hl hr
            obtain ⟨a1, rfl⟩ := len1' la
            have ba0 := ilBd_get hbd 0 0
            simp only [List.getD_cons_zero, List.getD_cons_succ] at ba0
            obtain ⟨k, rfl⟩ := len1' (a := ns) (by simpa using hw)
            obtain rfl : num = 0 := by rcases hnum with h | h; exact h; cases h
            simp only [dimsOf, Option.getD_some, dimsS, sizeK, List.getD_cons_zero, List.getD_cons_succ, List.getD_nil, reduceCtorEq, if_false, reduceIte, partS, maxI] at hR
            by_cases hk : 0 ≤ k ∧ k ≤ a1
            · have hw1 : w64 (a1 - k) = a1 - k := wrap_i64 (by unfold inI64; omega)
              have hw2 : w64 (a1 - k + 1) = a1 - k + 1 := wrap_i64 (by unfold inI64; omega)
              have k1 : decide (k < 0) = false := decide_eq_false (by omega)
              have k2 : decide (k > a1) = false := decide_eq_false (by omega)
              have k3 : ¬ (k < 0 ∨ k > a1) := by omega
              simp only [hw1, hw2, k3, if_false, ne_eq, not_true_eq_false] at hR
              repeat' (first
                | with_reducible refine t_seq fun K => ?_
                | with_reducible refine t_block ?_
                | with_reducible refine t_scope ?_
                | with_reducible refine t_label ?_
                | with_reducible refine t_skip ?_
                | with_reducible refine t_exit ?_
                | with_reducible refine t_ret ?_
                | with_reducible refine t_k ?_
                | (with_reducible refine t_gF ?_)
                | ((first | with_reducible refine t_kE (t_openE ?_) | with_reducible refine t_kD (t_openD ?_) | with_reducible refine t_kE ?_ | with_reducible refine t_kD ?_ | with_reducible refine t_gS ?_ | with_reducible refine t_kL ?_ | (with_reducible refine t_kLE ?_ ?_; rotate_left) | with_reducible refine t_region fun K => ?_ | with_reducible refine t_draw (by kernel_rfl) fun K => ?_); (try (first | refine t_hideE fun KL => ?_ | refine t_hideD fun KL => ?_)); simp only [go_sem, geff_true, geff_false, kp53, k1, k2, g4, Int.toNat_natCast, e3, con76_f, con51_f, con30b_f, con84_f, con76_c, con51_c, con30b_c, con84_c, ils_length, slK_sl, hG2, hRk, rkV_def, szV_def, z8_0, z8_1, z8_2, z8_3, z8_4, z8_5, z8_6, z8_7, z8_8, z8_9, z8_10, z8_11, z8_12, List.length_replicate])
                | (with_reducible exact kp_nil)
                | (with_reducible exact Kp.refl _)
                | (with_reducible exact kp_to)
                | (with_reducible refine kp_cons ?_)
                | (with_reducible refine kp_arr ?_)
                | (with_reducible refine kp_app ?_)
                | ((with_reducible refine kp_skip ?_ ?_); rfl)
                | ((with_reducible refine t_cond fun A B => ?_); simp only [go_sem, geff_true, geff_false, kp53, k1, k2, g4, Int.toNat_natCast, e3, con76_f, con51_f, con30b_f, con84_f, con76_c, con51_c, con30b_c, con84_c, ils_length, slK_sl, hG2, hRk, rkV_def, szV_def, z8_0, z8_1, z8_2, z8_3, z8_4, z8_5, z8_6, z8_7, z8_8, z8_9, z8_10, z8_11, z8_12, List.length_replicate]; first | (with_reducible refine A.h ?_) | (with_reducible refine B.h ?_) | (refine And.intro (fun hc => A.h ?_) (fun hc => B.h ?_)))
                | ((with_reducible refine t_geffS (fun hg => ?_) (fun hg => ?_)) <;> ((try simp only [Bool.not_eq_true', Bool.not_eq_false', Bool.and_eq_true, Bool.or_eq_false_iff] at hg); simp only [hg, go_sem, geff_true, geff_false, kp53, k1, k2, g4, Int.toNat_natCast, e3, con76_f, con51_f, con30b_f, con84_f, con76_c, con51_c, con30b_c, con84_c, ils_length, slK_sl, hG2, hRk, rkV_def, szV_def, z8_0, z8_1, z8_2, z8_3, z8_4, z8_5, z8_6, z8_7, z8_8, z8_9, z8_10, z8_11, z8_12, List.length_replicate]))
                | simp only [thenQ_n, thenQ_r, thenQ_e, blockQ_n, blockQ_r, blockQ_e, scopeQ_n, scopeQ_r, scopeQ_e, Nat.reduceEqDiff, reduceIte]
                | (with_reducible refine And.intro ?_ ?_)
                | with_reducible intro vr)
              all_goals try (first | (with_reducible assumption) | (intros; (try simp only [Bool.and_eq_true, Bool.or_eq_true, Bool.or_eq_false_iff, Bool.not_eq_true', Bool.not_eq_false', decide_eq_true_eq, decide_eq_false_iff_not, beq_iff_eq, beq_eq_false_iff_ne, bne_iff_ne, bne_eq_false_iff_eq, ne_eq, inI64, List.length_append] at *) <;> omega))
              all_goals ((first | refine end_retE ?_ | refine end_normE ?_); simp only [fin, go_sem])
              all_goals refine dv_of (by first | exact slK_sl | rfl) ?_
              all_goals rw [← hR]
              all_goals (first | (simp_all; done) | (simp_all; omega) | ((repeat' split) <;> simp_all <;> omega) | trace_state)
            · have k3 : k < 0 ∨ k > a1 := by omega
              simp only [k3, if_true, ne_eq, reduceCtorEq, not_false_eq_true] at hR
              by_cases k4 : k < 0
              · have k1 : decide (k < 0) = true := decide_eq_true k4
                repeat' (first
                  | with_reducible refine t_seq fun K => ?_
                  | with_reducible refine t_block ?_
                  | with_reducible refine t_scope ?_
                  | with_reducible refine t_label ?_
                  | with_reducible refine t_skip ?_
                  | with_reducible refine t_exit ?_
                  | with_reducible refine t_ret ?_
                  | with_reducible refine t_k ?_
                  | (with_reducible refine t_gF ?_)
                  | ((first | with_reducible refine t_kE (t_openE ?_) | with_reducible refine t_kD (t_openD ?_) | with_reducible refine t_kE ?_ | with_reducible refine t_kD ?_ | with_reducible refine t_gS ?_ | with_reducible refine t_kL ?_ | (with_reducible refine t_kLE ?_ ?_; rotate_left) | with_reducible refine t_region fun K => ?_ | with_reducible refine t_draw (by kernel_rfl) fun K => ?_); (try (first | refine t_hideE fun KL => ?_ | refine t_hideD fun KL => ?_)); simp only [go_sem, geff_true, geff_false, kp53, k1, g4, Int.toNat_natCast, e3, con76_f, con51_f, con30b_f, con84_f, con76_c, con51_c, con30b_c, con84_c, ils_length, slK_sl, hG2, hRk, rkV_def, szV_def, z8_0, z8_1, z8_2, z8_3, z8_4, z8_5, z8_6, z8_7, z8_8, z8_9, z8_10, z8_11, z8_12, List.length_replicate])
                  | (with_reducible exact kp_nil)
                  | (with_reducible exact Kp.refl _)
                  | (with_reducible exact kp_to)
                  | (with_reducible refine kp_cons ?_)
                  | (with_reducible refine kp_arr ?_)
                  | (with_reducible refine kp_app ?_)
                  | ((with_reducible refine kp_skip ?_ ?_); rfl)
                  | ((with_reducible refine t_cond fun A B => ?_); simp only [go_sem, geff_true, geff_false, kp53, k1, g4, Int.toNat_natCast, e3, con76_f, con51_f, con30b_f, con84_f, con76_c, con51_c, con30b_c, con84_c, ils_length, slK_sl, hG2, hRk, rkV_def, szV_def, z8_0, z8_1, z8_2, z8_3, z8_4, z8_5, z8_6, z8_7, z8_8, z8_9, z8_10, z8_11, z8_12, List.length_replicate]; first | (with_reducible refine A.h ?_) | (with_reducible refine B.h ?_) | (refine And.intro (fun hc => A.h ?_) (fun hc => B.h ?_)))
                  | ((with_reducible refine t_geffS (fun hg => ?_) (fun hg => ?_)) <;> ((try simp only [Bool.not_eq_true', Bool.not_eq_false', Bool.and_eq_true, Bool.or_eq_false_iff] at hg); simp only [hg, go_sem, geff_true, geff_false, kp53, k1, g4, Int.toNat_natCast, e3, con76_f, con51_f, con30b_f, con84_f, con76_c, con51_c, con30b_c, con84_c, ils_length, slK_sl, hG2, hRk, rkV_def, szV_def, z8_0, z8_1, z8_2, z8_3, z8_4, z8_5, z8_6, z8_7, z8_8, z8_9, z8_10, z8_11, z8_12, List.length_replicate]))
                  | simp only [thenQ_n, thenQ_r, thenQ_e, blockQ_n, blockQ_r, blockQ_e, scopeQ_n, scopeQ_r, scopeQ_e, Nat.reduceEqDiff, reduceIte]
                  | (with_reducible refine And.intro ?_ ?_)
                  | with_reducible intro vr)
                all_goals try (first | (with_reducible assumption) | (intros; (try simp only [Bool.and_eq_true, Bool.or_eq_true, Bool.or_eq_false_iff, Bool.not_eq_true', Bool.not_eq_false', decide_eq_true_eq, decide_eq_false_iff_not, beq_iff_eq, beq_eq_false_iff_ne, bne_iff_ne, bne_eq_false_iff_eq, ne_eq, inI64, List.length_append] at *) <;> omega))
                all_goals ((first | refine end_retE ?_ | refine end_normE ?_); simp only [fin, go_sem])
                all_goals refine dv_of (by first | exact slK_sl | rfl) ?_
                all_goals rw [← hR]
                all_goals (first | (simp_all; done) | (simp_all; omega) | ((repeat' split) <;> simp_all <;> omega) | trace_state)
              · have k1 : decide (k < 0) = false := decide_eq_false k4
                have k2 : decide (k > a1) = true := decide_eq_true (by omega)
                repeat' (first
                  | with_reducible refine t_seq fun K => ?_
                  | with_reducible refine t_block ?_
                  | with_reducible refine t_scope ?_
                  | with_reducible refine t_label ?_
                  | with_reducible refine t_skip ?_
                  | with_reducible refine t_exit ?_
                  | with_reducible refine t_ret ?_
                  | with_reducible refine t_k ?_
                  | (with_reducible refine t_gF ?_)
                  | ((first | with_reducible refine t_kE (t_openE ?_) | with_reducible refine t_kD (t_openD ?_) | with_reducible refine t_kE ?_ | with_reducible refine t_kD ?_ | with_reducible refine t_gS ?_ | with_reducible refine t_kL ?_ | (with_reducible refine t_kLE ?_ ?_; rotate_left) | with_reducible refine t_region fun K => ?_ | with_reducible refine t_draw (by kernel_rfl) fun K => ?_); (try (first | refine t_hideE fun KL => ?_ | refine t_hideD fun KL => ?_)); simp only [go_sem, geff_true, geff_false, kp53, k1, k2, g4, Int.toNat_natCast, e3, con76_f, con51_f, con30b_f, con84_f, con76_c, con51_c, con30b_c, con84_c, ils_length, slK_sl, hG2, hRk, rkV_def, szV_def, z8_0, z8_1, z8_2, z8_3, z8_4, z8_5, z8_6, z8_7, z8_8, z8_9, z8_10, z8_11, z8_12, List.length_replicate])
                  | (with_reducible exact kp_nil)
                  | (with_reducible exact Kp.refl _)
                  | (with_reducible exact kp_to)
                  | (with_reducible refine kp_cons ?_)
                  | (with_reducible refine kp_arr ?_)
                  | (with_reducible refine kp_app ?_)
                  | ((with_reducible refine kp_skip ?_ ?_); rfl)
                  | ((with_reducible refine t_cond fun A B => ?_); simp only [go_sem, geff_true, geff_false, kp53, k1, k2, g4, Int.toNat_natCast, e3, con76_f, con51_f, con30b_f, con84_f, con76_c, con51_c, con30b_c, con84_c, ils_length, slK_sl, hG2, hRk, rkV_def, szV_def, z8_0, z8_1, z8_2, z8_3, z8_4, z8_5, z8_6, z8_7, z8_8, z8_9, z8_10, z8_11, z8_12, List.length_replicate]; first | (with_reducible refine A.h ?_) | (with_reducible refine B.h ?_) | (refine And.intro (fun hc => A.h ?_) (fun hc => B.h ?_)))
                  | ((with_reducible refine t_geffS (fun hg => ?_) (fun hg => ?_)) <;> ((try simp only [Bool.not_eq_true', Bool.not_eq_false', Bool.and_eq_true, Bool.or_eq_false_iff] at hg); simp only [hg, go_sem, geff_true, geff_false, kp53, k1, k2, g4, Int.toNat_natCast, e3, con76_f, con51_f, con30b_f, con84_f, con76_c, con51_c, con30b_c, con84_c, ils_length, slK_sl, hG2, hRk, rkV_def, szV_def, z8_0, z8_1, z8_2, z8_3, z8_4, z8_5, z8_6, z8_7, z8_8, z8_9, z8_10, z8_11, z8_12, List.length_replicate]))
                  | simp only [thenQ_n, thenQ_r, thenQ_e, blockQ_n, blockQ_r, blockQ_e, scopeQ_n, scopeQ_r, scopeQ_e, Nat.reduceEqDiff, reduceIte]
                  | (with_reducible refine And.intro ?_ ?_)
                  | with_reducible intro vr)
                all_goals try (first | (with_reducible assumption) | (intros; (try simp only [Bool.and_eq_true, Bool.or_eq_true, Bool.or_eq_false_iff, Bool.not_eq_true', Bool.not_eq_false', decide_eq_true_eq, decide_eq_false_iff_not, beq_iff_eq, beq_eq_false_iff_ne, bne_iff_ne, bne_eq_false_iff_eq, ne_eq, inI64, List.length_append] at *) <;> omega))
                all_goals ((first | refine end_retE ?_ | refine end_normE ?_); simp only [fin, go_sem])
                all_goals refine dv_of (by first | exact slK_sl | rfl) ?_
                all_goals rw [← hR]
                all_goals (first | (simp_all; done) | (simp_all; omega) | ((repeat' split) <;> simp_all <;> omega) | trace_state)
          · skip
            have e3 : sizedS n_chunk = false := rfl
            obtain rfl := giv_e hfs (show findS n_chunk ds.length = (ents.getD 9 ent0, true) from rfl)
            simp only [ents, List.getD_cons_zero, List.getD_cons_succ, wantS] at hl hw hR hr hRk
            obtain ⟨a, rfl, la⟩ := shape1 hl hr
            obtain ⟨a1, rfl⟩ := len1' la
            have ba0 := ilBd_get hbd 0 0
            simp only [List.getD_cons_zero, List.getD_cons_succ] at ba0
            obtain rfl := len0 (a := ns) (by simpa using hw)
            simp only [dimsOf, Option.getD_some, dimsS, sizeK, List.getD_cons_zero, List.getD_cons_succ, List.getD_nil, reduceCtorEq, if_false, reduceIte, partS, maxI] at hR
            by_cases hk : 1 ≤ num ∧ num ≤ 64
            · have ht := tdiv_bd (a := a1) (k := num) ba0 (by omega)
              have hw1 : inI64 (a1.tdiv num) := by unfold inI64; omega
              have hw2 : num ≠ 0 := by omega
              have k1 : decide (num < 1) = false := decide_eq_false (by omega)
              have k2 : decide (num > 64) = false := decide_eq_false (by omega)
              have k3 : ¬ (num < 1 ∨ num > 64) := by omega
              simp only [k3, if_false] at hR
              repeat' (first
                | with_reducible refine t_seq fun K => ?_
                | with_reducible refine t_block ?_
                | with_reducible refine t_scope ?_
                | with_reducible refine t_label ?_
                | with_reducible refine t_skip ?_
                | with_reducible refine t_exit ?_
                | with_reducible refine t_ret ?_
                | with_reducible refine t_k ?_
                | (with_reducible refine t_gF ?_)
                | ((first | with_reducible refine t_kE (t_openE ?_) | with_reducible refine t_kD (t_openD ?_) | with_reducible refine t_kE ?_ | with_reducible refine t_kD ?_ | with_reducible refine t_gS ?_ | with_reducible refine t_kL ?_ | (with_reducible refine t_kLE ?_ ?_; rotate_left) | with_reducible refine t_region fun K => ?_ | with_reducible refine t_draw (by kernel_rfl) fun K => ?_); (try (first | refine t_hideE fun KL => ?_ | refine t_hideD fun KL => ?_)); simp only [go_sem, geff_true, geff_false, kp53, k1, k2, g4, Int.toNat_natCast, e3, con76_f, con51_f, con30b_f, con84_f, con76_c, con51_c, con30b_c, con84_c, ils_length, slK_sl, hG2, hRk, rkV_def, szV_def, z9_0, z9_1, z9_2, z9_3, z9_4, z9_5, z9_6, z9_7, z9_8, z9_9, z9_10, z9_11, z9_12, List.length_replicate])
                | (with_reducible exact kp_nil)
                | (with_reducible exact Kp.refl _)
                | (with_reducible exact kp_to)
                | (with_reducible refine kp_cons ?_)
                | (with_reducible refine kp_arr ?_)
                | (with_reducible refine kp_app ?_)
                | ((with_reducible refine kp_skip ?_ ?_); rfl)
                | ((with_reducible refine t_cond fun A B => ?_); simp only [go_sem, geff_true, geff_false, kp53, k1, k2, g4, Int.toNat_natCast, e3, con76_f, con51_f, con30b_f, con84_f, con76_c, con51_c, con30b_c, con84_c, ils_length, slK_sl, hG2, hRk, rkV_def, szV_def, z9_0, z9_1, z9_2, z9_3, z9_4, z9_5, z9_6, z9_7, z9_8, z9_9, z9_10, z9_11, z9_12, List.length_replicate]; first | (with_reducible refine A.h ?_) | (with_reducible refine B.h ?_) | (refine And.intro (fun hc => A.h ?_) (fun hc => B.h ?_)))
                | ((with_reducible refine t_geffS (fun hg => ?_) (fun hg => ?_)) <;> ((try simp only [Bool.not_eq_true', Bool.not_eq_false', Bool.and_eq_true, Bool.or_eq_false_iff] at hg); simp only [hg, go_sem, geff_true, geff_false, kp53, k1, k2, g4, Int.toNat_natCast, e3, con76_f, con51_f, con30b_f, con84_f, con76_c, con51_c, con30b_c, con84_c, ils_length, slK_sl, hG2, hRk, rkV_def, szV_def, z9_0, z9_1, z9_2, z9_3, z9_4, z9_5, z9_6, z9_7, z9_8, z9_9, z9_10, z9_11, z9_12, List.length_replicate]))
                | simp only [thenQ_n, thenQ_r, thenQ_e, blockQ_n, blockQ_r, blockQ_e, scopeQ_n, scopeQ_r, scopeQ_e, Nat.reduceEqDiff, reduceIte]
                | (with_reducible refine And.intro ?_ ?_)
                | with_reducible intro vr)
              all_goals try (first | (with_reducible assumption) | (intros; (try simp only [Bool.and_eq_true, Bool.or_eq_true, Bool.or_eq_false_iff, Bool.not_eq_true', Bool.not_eq_false', decide_eq_true_eq, decide_eq_false_iff_not, beq_iff_eq, beq_eq_false_iff_ne, bne_iff_ne, bne_eq_false_iff_eq, ne_eq, inI64, List.length_append] at *) <;> omega))
              all_goals ((first | refine end_retE ?_ | refine end_normE ?_); simp only [fin, go_sem])
              all_goals refine dv_of (by first | exact slK_sl | rfl) ?_
              all_goals rw [← hR]
              all_goals (first | (simp_all; done) | (simp_all; omega) | ((repeat' split) <;> simp_all <;> omega) | trace_state)
            · have k3 : num < 1 ∨ num > 64 := by omega
              simp only [k3, if_true, ne_eq, reduceCtorEq, not_false_eq_true] at hR
              by_cases k4 : num < 1
              · have k1 : decide (num < 1) = true := decide_eq_true k4
                repeat' (first
                  | with_reducible refine t_seq fun K => ?_
                  | with_reducible refine t_block ?_
                  | with_reducible refine t_scope ?_
                  | with_reducible refine t_label ?_
                  | with_reducible refine t_skip ?_
                  | with_reducible refine t_exit ?_
                  | with_reducible refine t_ret ?_
                  | with_reducible refine t_k ?_
                  | (with_reducible refine t_gF ?_)
                  | ((first | with_reducible refine t_kE (t_openE ?_) | with_reducible refine t_kD (t_openD ?_) | with_reducible refine t_kE ?_ | with_reducible refine t_kD ?_ | with_reducible refine t_gS ?_ | with_reducible refine t_kL ?_ | (with_reducible refine t_kLE ?_ ?_; rotate_left) | with_reducible refine t_region fun K => ?_ | with_reducible refine t_draw (by kernel_rfl) fun K => ?_); (try (first | refine t_hideE fun KL => ?_ | refine t_hideD fun KL => ?_)); simp only [go_sem, geff_true, geff_false, kp53, k1, g4, Int.toNat_natCast, e3, con76_f, con51_f, con30b_f, con84_f, con76_c, con51_c, con30b_c, con84_c, ils_length, slK_sl, hG2, hRk, rkV_def, szV_def, z9_0, z9_1, z9_2, z9_3, z9_4, z9_5, z9_6, z9_7, z9_8, z9_9, z9_10, z9_11, z9_12, List.length_replicate])
                  | (with_reducible exact kp_nil)
                  | (with_reducible exact Kp.refl _)
                  | (with_reducible exact kp_to)
                  | (with_reducible refine kp_cons ?_)
                  | (with_reducible refine kp_arr ?_)
                  | (with_reducible refine kp_app ?_)
                  | ((with_reducible refine kp_skip ?_ ?_); rfl)
                  | ((with_reducible refine t_cond fun A B => ?_); simp only [go_sem, geff_true, geff_false, kp53, k1, g4, Int.toNat_natCast, e3, con76_f, con51_f, con30b_f, con84_f, con76_c, con51_c, con30b_c, con84_c, ils_length, slK_sl, hG2, hRk, rkV_def, szV_def, z9_0, z9_1, z9_2, z9_3, z9_4, z9_5, z9_6, z9_7, z9_8, z9_9, z9_10, z9_11, z9_12, List.length_replicate]; first | (with_reducible refine A.h ?_) | (with_reducible refine B.h ?_) | (refine And.intro (fun hc => A.h ?_) (fun hc => B.h ?_)))
                  | ((with_reducible refine t_geffS (fun hg => ?_) (fun hg => ?_)) <;> ((try simp only [Bool.not_eq_true', Bool.not_eq_false', Bool.and_eq_true, Bool.or_eq_false_iff] at hg); simp only [hg, go_sem, geff_true, geff_false, kp53, k1, g4, Int.toNat_natCast, e3, con76_f, con51_f, con30b_f, con84_f, con76_c, con51_c, con30b_c, con84_c, ils_length, slK_sl, hG2, hRk, rkV_def, szV_def, z9_0, z9_1, z9_2, z9_3, z9_4, z9_5, z9_6, z9_7, z9_8, z9_9, z9_10, z9_11, z9_12, List.length_replicate]))
                  | simp only [thenQ_n, thenQ_r, thenQ_e, blockQ_n, blockQ_r, blockQ_e, scopeQ_n, scopeQ_r, scopeQ_e, Nat.reduceEqDiff, reduceIte]
                  | (with_reducible refine And.intro ?_ ?_)
                  | with_reducible intro vr)
                all_goals try (first | (with_reducible assumption) | (intros; (try simp only [Bool.and_eq_true, Bool.or_eq_true, Bool.or_eq_false_iff, Bool.not_eq_true', Bool.not_eq_false', decide_eq_true_eq, decide_eq_false_iff_not, beq_iff_eq, beq_eq_false_iff_ne, bne_iff_ne, bne_eq_false_iff_eq, ne_eq, inI64, List.length_append] at *) <;> omega))
                all_goals ((first | refine end_retE ?_ | refine end_normE ?_); simp only [fin, go_sem])
                all_goals refine dv_of (by first | exact slK_sl | rfl) ?_
                all_goals rw [← hR]
                all_goals (first | (simp_all; done) | (simp_all; omega) | ((repeat' split) <;> simp_all <;> omega) | trace_state)
              · have k1 : decide (num < 1) = false := decide_eq_false k4
                have k2 : decide (num > 64) = true := decide_eq_true (by omega)
                repeat' (first
                  | with_reducible refine t_seq fun K => ?_
                  | with_reducible refine t_block ?_
                  | with_reducible refine t_scope ?_
                  | with_reducible refine t_label ?_
                  | with_reducible refine t_skip ?_
                  | with_reducible refine t_exit ?_
                  | with_reducible refine t_ret ?_
                  | with_reducible refine t_k ?_
                  | (with_reducible refine t_gF ?_)
                  | ((first | with_reducible refine t_kE (t_openE ?_) | with_reducible refine t_kD (t_openD ?_) | with_reducible refine t_kE ?_ | with_reducible refine t_kD ?_ | with_reducible refine t_gS ?_ | with_reducible refine t_kL ?_ | (with_reducible refine t_kLE ?_ ?_; rotate_left) | with_reducible refine t_region fun K => ?_ | with_reducible refine t_draw (by kernel_rfl) fun K => ?_); (try (first | refine t_hideE fun KL => ?_ | refine t_hideD fun KL => ?_)); simp only [go_sem, geff_true, geff_false, kp53, k1, k2, g4, Int.toNat_natCast, e3, con76_f, con51_f, con30b_f, con84_f, con76_c, con51_c, con30b_c, con84_c, ils_length, slK_sl, hG2, hRk, rkV_def, szV_def, z9_0, z9_1, z9_2, z9_3, z9_4, z9_5, z9_6, z9_7, z9_8, z9_9, z9_10, z9_11, z9_12, List.length_replicate])
                  | (with_reducible exact kp_nil)
                  | (with_reducible exact Kp.refl _)
                  | (with_reducible exact kp_to)
                  | (with_reducible refine kp_cons ?_)
                  | (with_reducible refine kp_arr ?_)
                  | (with_reducible refine kp_app ?_)
                  | ((with_reducible refine kp_skip ?_ ?_); rfl)
                  | ((with_reducible refine t_cond fun A B => ?_); simp only [go_sem, geff_true, geff_false, kp53, k1, k2, g4, Int.toNat_natCast, e3, con76_f, con51_f, con30b_f, con84_f, con76_c, con51_c, con30b_c, con84_c, ils_length, slK_sl, hG2, hRk, rkV_def, szV_def, z9_0, z9_1, z9_2, z9_3, z9_4, z9_5, z9_6, z9_7, z9_8, z9_9, z9_10, z9_11, z9_12, List.length_replicate]; first | (with_reducible refine A.h ?_) | (with_reducible refine B.h ?_) | (refine And.intro (fun hc => A.h ?_) (fun hc => B.h ?_)))
                  | ((with_reducible refine t_geffS (fun hg => ?_) (fun hg => ?_)) <;> ((try simp only [Bool.not_eq_true', Bool.not_eq_false', Bool.and_eq_true, Bool.or_eq_false_iff] at hg); simp only [hg, go_sem, geff_true, geff_false, kp53, k1, k2, g4, Int.toNat_natCast, e3, con76_f, con51_f, con30b_f, con84_f, con76_c, con51_c, con30b_c, con84_c, ils_length, slK_sl, hG2, hRk, rkV_def, szV_def, z9_0, z9_1, z9_2, z9_3, z9_4, z9_5, z9_6, z9_7, z9_8, z9_9, z9_10, z9_11, z9_12, List.length_replicate]))
                  | simp only [thenQ_n, thenQ_r, thenQ_e, blockQ_n, blockQ_r, blockQ_e, scopeQ_n, scopeQ_r, scopeQ_e, Nat.reduceEqDiff, reduceIte]
                  | (with_reducible refine And.intro ?_ ?_)
                  | with_reducible intro vr)
                all_goals try (first | (with_reducible assumption) | (intros; (try simp only [Bool.and_eq_true, Bool.or_eq_true, Bool.or_eq_false_iff, Bool.not_eq_true', Bool.not_eq_false', decide_eq_true_eq, decide_eq_false_iff_not, beq_iff_eq, beq_eq_false_iff_ne, bne_iff_ne, bne_eq_false_iff_eq, ne_eq, inI64, List.length_append] at *) <;> omega))
                all_goals ((first | refine end_retE ?_ | refine end_normE ?_); simp only [fin, go_sem])
                all_goals refine dv_of (by first | exact slK_sl | rfl) ?_
                all_goals rw [← hR]
                all_goals (first | (simp_all; done) | (simp_all; omega) | ((repeat' split) <;> simp_all <;> omega) | trace_state)
          · skip
            have e3 : sizedS n_index = false := rfl
            obtain rfl := giv_e hfs (show findS n_index ds.length = (ents.getD 10 ent0, true) from rfl)
            simp only [ents, List.getD_cons_zero, List.getD_cons_succ, wantS] at hl hw hR hr hRk
            obtain ⟨a, b, rfl, la, lb⟩ := shape2 hl hr
            obtain ⟨a1, rfl⟩ := len1' la
            have ba0 := ilBd_get hbd 0 0
            obtain rfl := len0 lb
            simp only [List.getD_cons_zero, List.getD_cons_succ] at ba0
            obtain rfl := len0 (a := ns) (by simpa using hw)
            obtain rfl : num = 0 := by rcases hnum with h | h; exact h; cases h
            simp only [dimsOf, Option.getD_some, dimsS, sizeK, List.getD_cons_zero, List.getD_cons_succ, List.getD_nil, reduceCtorEq, if_false, reduceIte, partS, maxI] at hR
            repeat' (first
              | with_reducible refine t_seq fun K => ?_
              | with_reducible refine t_block ?_
              | with_reducible refine t_scope ?_
              | with_reducible refine t_label ?_
              | with_reducible refine t_skip ?_
              | with_reducible refine t_exit ?_
              | with_reducible refine t_ret ?_
              | with_reducible refine t_k ?_
              | (with_reducible refine t_gF ?_)
              | ((first | with_reducible refine t_kE (t_openE ?_) | with_reducible refine t_kD (t_openD ?_) | with_reducible refine t_kE ?_ | with_reducible refine t_kD ?_ | with_reducible refine t_gS ?_ | with_reducible refine t_kL ?_ | (with_reducible refine t_kLE ?_ ?_; rotate_left) | with_reducible refine t_region fun K => ?_ | with_reducible refine t_draw (by kernel_rfl) fun K => ?_); (try (first | refine t_hideE fun KL => ?_ | refine t_hideD fun KL => ?_)); simp only [go_sem, geff_true, geff_false, kp53, g4, Int.toNat_natCast, e3, con76_f, con51_f, con30b_f, con84_f, con76_c, con51_c, con30b_c, con84_c, ils_length, slK_sl, hG2, hRk, rkV_def, szV_def, z10_0, z10_1, z10_2, z10_3, z10_4, z10_5, z10_6, z10_7, z10_8, z10_9, z10_10, z10_11, z10_12, List.length_replicate])
              | (with_reducible exact kp_nil)
              | (with_reducible exact Kp.refl _)
              | (with_reducible exact kp_to)
              | (with_reducible refine kp_cons ?_)
              | (with_reducible refine kp_arr ?_)
              | (with_reducible refine kp_app ?_)
              | ((with_reducible refine kp_skip ?_ ?_); rfl)
              | ((with_reducible refine t_cond fun A B => ?_); simp only [go_sem, geff_true, geff_false, kp53, g4, Int.toNat_natCast, e3, con76_f, con51_f, con30b_f, con84_f, con76_c, con51_c, con30b_c, con84_c, ils_length, slK_sl, hG2, hRk, rkV_def, szV_def, z10_0, z10_1, z10_2, z10_3, z10_4, z10_5, z10_6, z10_7, z10_8, z10_9, z10_10, z10_11, z10_12, List.length_replicate]; first | (with_reducible refine A.h ?_) | (with_reducible refine B.h ?_) | (refine And.intro (fun hc => A.h ?_) (fun hc => B.h ?_)))
              | ((with_reducible refine t_geffS (fun hg => ?_) (fun hg => ?_)) <;> ((try simp only [Bool.not_eq_true', Bool.not_eq_false', Bool.and_eq_true, Bool.or_eq_false_iff] at hg); simp only [hg, go_sem, geff_true, geff_false, kp53, g4, Int.toNat_natCast, e3, con76_f, con51_f, con30b_f, con84_f, con76_c, con51_c, con30b_c, con84_c, ils_length, slK_sl, hG2, hRk, rkV_def, szV_def, z10_0, z10_1, z10_2, z10_3, z10_4, z10_5, z10_6, z10_7, z10_8, z10_9, z10_10, z10_11, z10_12, List.length_replicate]))
              | simp only [thenQ_n, thenQ_r, thenQ_e, blockQ_n, blockQ_r, blockQ_e, scopeQ_n, scopeQ_r, scopeQ_e, Nat.reduceEqDiff, reduceIte]
              | (with_reducible refine And.intro ?_ ?_)
              | with_reducible intro vr)
            all_goals try (first | (with_reducible assumption) | (intros; (try simp only [Bool.and_eq_true, Bool.or_eq_true, Bool.or_eq_false_iff, Bool.not_eq_true', Bool.not_eq_false', decide_eq_true_eq, decide_eq_false_iff_not, beq_iff_eq, beq_eq_false_iff_ne, bne_iff_ne, bne_eq_false_iff_eq, ne_eq, inI64, List.length_append] at *) <;> omega))
            all_goals ((first | refine end_retE ?_ | refine end_normE ?_); simp only [fin, go_sem])
            all_goals refine dv_of (by first | exact slK_sl | rfl) ?_
            all_goals rw [← hR]
            all_goals (first | (simp_all; done) | (simp_all; omega) | ((repeat' split) <;> simp_all <;> omega) | trace_state)
          · skip
            have e3 : sizedS n_update = false := rfl
            obtain rfl := giv_e hfs (show findS n_update ds.length = (ents.getD 11 ent0, true) from rfl)
            simp only [ents, List.getD_cons_zero, List.getD_cons_succ, wantS] at hl hw hR hr hRk
            obtain ⟨a, b, c, rfl, la, lb, lc⟩ := shape3 hl hr
            obtain ⟨a1, rfl⟩ := len1' la
            have ba0 := ilBd_get hbd 0 0
            obtain rfl := len0 lb
            obtain rfl := len0 lc
            simp only [List.getD_cons_zero, List.getD_cons_succ] at ba0
            obtain rfl := len0 (a := ns) (by simpa using hw)
            obtain rfl : num = 0 := by rcases hnum with h | h; exact h; cases h
            simp only [dimsOf, Option.getD_some, dimsS, sizeK, List.getD_cons_zero, List.getD_cons_succ, List.getD_nil, reduceCtorEq, if_false, reduceIte, partS, maxI] at hR
            repeat' (first
              | with_reducible refine t_seq fun K => ?_
              | with_reducible refine t_block ?_
              | with_reducible refine t_scope ?_
              | with_reducible refine t_label ?_
              | with_reducible refine t_skip ?_
              | with_reducible refine t_exit ?_
              | with_reducible refine t_ret ?_
              | with_reducible refine t_k ?_
              | (with_reducible refine t_gF ?_)
              | ((first | with_reducible refine t_kE (t_openE ?_) | with_reducible refine t_kD (t_openD ?_) | with_reducible refine t_kE ?_ | with_reducible refine t_kD ?_ | with_reducible refine t_gS ?_ | with_reducible refine t_kL ?_ | (with_reducible refine t_kLE ?_ ?_; rotate_left) | with_reducible refine t_region fun K => ?_ | with_reducible refine t_draw (by kernel_rfl) fun K => ?_); (try (first | refine t_hideE fun KL => ?_ | refine t_hideD fun KL => ?_)); simp only [go_sem, geff_true, geff_false, kp53, g4, Int.toNat_natCast, e3, con76_f, con51_f, con30b_f, con84_f, con76_c, con51_c, con30b_c, con84_c, ils_length, slK_sl, hG2, hRk, rkV_def, szV_def, z11_0, z11_1, z11_2, z11_3, z11_4, z11_5, z11_6, z11_7, z11_8, z11_9, z11_10, z11_11, z11_12, List.length_replicate])
              | (with_reducible exact kp_nil)
              | (with_reducible exact Kp.refl _)
              | (with_reducible exact kp_to)
              | (with_reducible refine kp_cons ?_)
              | (with_reducible refine kp_arr ?_)
              | (with_reducible refine kp_app ?_)
              | ((with_reducible refine kp_skip ?_ ?_); rfl)
              | ((with_reducible refine t_cond fun A B => ?_); simp only [go_sem, geff_true, geff_false, kp53, g4, Int.toNat_natCast, e3, con76_f, con51_f, con30b_f, con84_f, con76_c, con51_c, con30b_c, con84_c, ils_length, slK_sl, hG2, hRk, rkV_def, szV_def, z11_0, z11_1, z11_2, z11_3, z11_4, z11_5, z11_6, z11_7, z11_8, z11_9, z11_10, z11_11, z11_12, List.length_replicate]; first | (with_reducible refine A.h ?_) | (with_reducible refine B.h ?_) | (refine And.intro (fun hc => A.h ?_) (fun hc => B.h ?_)))
              | ((with_reducible refine t_geffS (fun hg => ?_) (fun hg => ?_)) <;> ((try simp only [Bool.not_eq_true', Bool.not_eq_false', Bool.and_eq_true, Bool.or_eq_false_iff] at hg); simp only [hg, go_sem, geff_true, geff_false, kp53, g4, Int.toNat_natCast, e3, con76_f, con51_f, con30b_f, con84_f, con76_c, con51_c, con30b_c, con84_c, ils_length, slK_sl, hG2, hRk, rkV_def, szV_def, z11_0, z11_1, z11_2, z11_3, z11_4, z11_5, z11_6, z11_7, z11_8, z11_9, z11_10, z11_11, z11_12, List.length_replicate]))
              | simp only [thenQ_n, thenQ_r, thenQ_e, blockQ_n, blockQ_r, blockQ_e, scopeQ_n, scopeQ_r, scopeQ_e, Nat.reduceEqDiff, reduceIte]
              | (with_reducible refine And.intro ?_ ?_)
              | with_reducible intro vr)
            all_goals try (first | (with_reducible assumption) | (intros; (try simp only [Bool.and_eq_true, Bool.or_eq_true, Bool.or_eq_false_iff, Bool.not_eq_true', Bool.not_eq_false', decide_eq_true_eq, decide_eq_false_iff_not, beq_iff_eq, beq_eq_false_iff_ne, bne_iff_ne, bne_eq_false_iff_eq, ne_eq, inI64, List.length_append] at *) <;> omega))
            all_goals ((first | refine end_retE ?_ | refine end_normE ?_); simp only [fin, go_sem])
            all_goals refine dv_of (by first | exact slK_sl | rfl) ?_
            all_goals rw [← hR]
            all_goals (first | (simp_all; done) | (simp_all; omega) | ((repeat' split) <;> simp_all <;> omega) | trace_state)
          · skip
            have e3 : sizedS n_pack = false := rfl
            obtain rfl := giv_e hfs (show findS n_pack ds.length = (packE ds.length, true) from rfl)
            simp only [packE, wantS] at hl hw hR hr hRk
            have hp0 := pack_len hr (by simp only [List.length_replicate] at hl; omega)
            obtain rfl := len0 (a := ns) (by simpa using hw)
            obtain rfl : num = 0 := by rcases hnum with h | h; exact h; cases h
            simp only [dimsOf, Option.getD_some, dimsS, sizeK, List.getD_cons_zero, List.getD_cons_succ, List.getD_nil, reduceCtorEq, if_false, reduceIte, partS, maxI] at hR
            repeat' (first
              | with_reducible refine t_seq fun K => ?_
              | with_reducible refine t_block ?_
              | with_reducible refine t_scope ?_
              | with_reducible refine t_label ?_
              | with_reducible refine t_skip ?_
              | with_reducible refine t_exit ?_
              | with_reducible refine t_ret ?_
              | with_reducible refine t_k ?_
              | (with_reducible refine t_gF ?_)
              | ((first | with_reducible refine t_kE (t_openE ?_) | with_reducible refine t_kD (t_openD ?_) | with_reducible refine t_kE ?_ | with_reducible refine t_kD ?_ | with_reducible refine t_gS ?_ | with_reducible refine t_kL ?_ | (with_reducible refine t_kLE ?_ ?_; rotate_left) | with_reducible refine t_region fun K => ?_ | with_reducible refine t_draw (by kernel_rfl) fun K => ?_); (try (first | refine t_hideE fun KL => ?_ | refine t_hideD fun KL => ?_)); simp only [go_sem, geff_true, geff_false, kp53, g4, Int.toNat_natCast, e3, con76_f, con51_f, con30b_f, con84_f, con76_c, con51_c, con30b_c, con84_c, ils_length, slK_sl, hG2, hRk, rkV_def, szV_def, z12_0, z12_1, z12_2, z12_3, z12_4, z12_5, z12_6, z12_7, z12_8, z12_9, z12_10, z12_11, z12_12, List.length_replicate, hp0])
              | (with_reducible exact kp_nil)
              | (with_reducible exact Kp.refl _)
              | (with_reducible exact kp_to)
              | (with_reducible refine kp_cons ?_)
              | (with_reducible refine kp_arr ?_)
              | (with_reducible refine kp_app ?_)
              | ((with_reducible refine kp_skip ?_ ?_); rfl)
              | ((with_reducible refine t_cond fun A B => ?_); simp only [go_sem, geff_true, geff_false, kp53, g4, Int.toNat_natCast, e3, con76_f, con51_f, con30b_f, con84_f, con76_c, con51_c, con30b_c, con84_c, ils_length, slK_sl, hG2, hRk, rkV_def, szV_def, z12_0, z12_1, z12_2, z12_3, z12_4, z12_5, z12_6, z12_7, z12_8, z12_9, z12_10, z12_11, z12_12, List.length_replicate, hp0]; first | (with_reducible refine A.h ?_) | (with_reducible refine B.h ?_) | (refine And.intro (fun hc => A.h ?_) (fun hc => B.h ?_)))
              | ((with_reducible refine t_geffS (fun hg => ?_) (fun hg => ?_)) <;> ((try simp only [Bool.not_eq_true', Bool.not_eq_false', Bool.and_eq_true, Bool.or_eq_false_iff] at hg); simp only [hg, go_sem, geff_true, geff_false, kp53, g4, Int.toNat_natCast, e3, con76_f, con51_f, con30b_f, con84_f, con76_c, con51_c, con30b_c, con84_c, ils_length, slK_sl, hG2, hRk, rkV_def, szV_def, z12_0, z12_1, z12_2, z12_3, z12_4, z12_5, z12_6, z12_7, z12_8, z12_9, z12_10, z12_11, z12_12, List.length_replicate, hp0]))
              | simp only [thenQ_n, thenQ_r, thenQ_e, blockQ_n, blockQ_r, blockQ_e, scopeQ_n, scopeQ_r, scopeQ_e, Nat.reduceEqDiff, reduceIte]
              | (with_reducible refine And.intro ?_ ?_)
              | with_reducible intro vr)
            all_goals try (first | (with_reducible assumption) | (intros; (try simp only [Bool.and_eq_true, Bool.or_eq_true, Bool.or_eq_false_iff, Bool.not_eq_true', Bool.not_eq_false', decide_eq_true_eq, decide_eq_false_iff_not, beq_iff_eq, beq_eq_false_iff_ne, bne_iff_ne, bne_eq_false_iff_eq, ne_eq, inI64, List.length_append] at *) <;> omega))
            all_goals ((first | refine end_retE ?_ | refine end_normE ?_); simp only [fin, go_sem])
            all_goals refine dv_of (by first | exact slK_sl | rfl) ?_
            all_goals rw [← hR]
            all_goals (first | (simp_all; done) | (simp_all; omega) | ((repeat' split) <;> simp_all <;> omega) | trace_state)
          · exfalso
            have e2 := find_no (n := ds.length) hno
            rw [hfs] at e2
            cases e2
      · intro _ _ _ _ h; cases h
  · rw [if_pos h0] at hR
    have h0' : (er != 0) = true := by simpa using h0
    refine pc_ofR G3_ok mixed (kp53) (rs := [.tmp 8, .tmp 9]) Try.func53 rfl (by kernel_rfl) (by kernel_rfl) (Nat.le_of_ble_eq_true rfl) ?_
    simp only [initF_cons, initF_nil, Nat.reduceAdd]
    refine t_name fun KF => ?_
    unfold G3
    repeat' (first
      | with_reducible refine t_seq fun K => ?_
      | with_reducible refine t_block ?_
      | with_reducible refine t_scope ?_
      | with_reducible refine t_label ?_
      | with_reducible refine t_skip ?_
      | with_reducible refine t_exit ?_
      | with_reducible refine t_ret ?_
      | with_reducible refine t_k ?_
      | (with_reducible refine t_gF ?_)
      | ((first | with_reducible refine t_kE (t_openE ?_) | with_reducible refine t_kD (t_openD ?_) | with_reducible refine t_kE ?_ | with_reducible refine t_kD ?_ | with_reducible refine t_gS ?_ | with_reducible refine t_kL ?_ | (with_reducible refine t_kLE ?_ ?_; rotate_left) | with_reducible refine t_region fun K => ?_ | with_reducible refine t_draw (by kernel_rfl) fun K => ?_); (try (first | refine t_hideE fun KL => ?_ | refine t_hideD fun KL => ?_)); simp only [go_sem, geff_true, geff_false, kp53, h0', con76_f, con51_f, con30b_f, con84_f, con76_c, con51_c, con30b_c, con84_c, ils_length, slK_sl, hG2, rkV_def, szV_def])
      | (with_reducible exact kp_nil)
      | (with_reducible exact Kp.refl _)
      | (with_reducible exact kp_to)
      | (with_reducible refine kp_cons ?_)
      | (with_reducible refine kp_arr ?_)
      | (with_reducible refine kp_app ?_)
      | ((with_reducible refine kp_skip ?_ ?_); rfl)
      | ((with_reducible refine t_cond fun A B => ?_); simp only [go_sem, geff_true, geff_false, kp53, h0', con76_f, con51_f, con30b_f, con84_f, con76_c, con51_c, con30b_c, con84_c, ils_length, slK_sl, hG2, rkV_def, szV_def]; first | (with_reducible refine A.h ?_) | (with_reducible refine B.h ?_) | (refine And.intro (fun hc => A.h ?_) (fun hc => B.h ?_)))
      | ((with_reducible refine t_geffS (fun hg => ?_) (fun hg => ?_)) <;> ((try simp only [Bool.not_eq_true', Bool.not_eq_false', Bool.and_eq_true, Bool.or_eq_false_iff] at hg); simp only [hg, go_sem, geff_true, geff_false, kp53, h0', con76_f, con51_f, con30b_f, con84_f, con76_c, con51_c, con30b_c, con84_c, ils_length, slK_sl, hG2, rkV_def, szV_def]))
      | simp only [thenQ_n, thenQ_r, thenQ_e, blockQ_n, blockQ_r, blockQ_e, scopeQ_n, scopeQ_r, scopeQ_e, Nat.reduceEqDiff, reduceIte]
      | (with_reducible refine And.intro ?_ ?_)
      | with_reducible intro vr)
    all_goals try (first | (with_reducible assumption) | (intros; (try simp only [Bool.and_eq_true, Bool.or_eq_true, Bool.or_eq_false_iff, Bool.not_eq_true', Bool.not_eq_false', decide_eq_true_eq, decide_eq_false_iff_not, beq_iff_eq, beq_eq_false_iff_ne, bne_iff_ne, bne_eq_false_iff_eq, ne_eq, inI64, List.length_append] at *) <;> omega))
    all_goals ((first | refine end_retE ?_ | refine end_normE ?_); simp only [fin, go_sem])
    exact dv_of rfl hR.symm
noncomputable def con53 : PCon Try.prog where
  f := 53
  c := fun
    | [.lit (.string op), xns, .lit (.int .i64 num), xds] => match slK .i64 xns, ilsOf xds with | some ns, some ds => some (ds.length ≤ 4096, dV (dimsI op ns num ds)) | _, _ => none
    | _ => none
  ok := by
    intro args p r hc hp
    split at hc
    · split at hc
      · rename_i hns hds
        cases hc
        exact PC.weak (dimsR_pc hp) ⟨LeA.refl _, slK_le hns, LeA.refl _, ilsOf_le hds, trivial⟩
      · cases hc
    · cases hc
  fk := fk53
theorem con53_f : con53.f = 53 := rfl
theorem con53_c {op : ByteArray} {xns : AV} {num : Int} {xds : AV} : con53.c [.lit (.string op), xns, .lit (.int .i64 num), xds] = match slK .i64 xns, ilsOf xds with | some ns, some ds => some (ds.length ≤ 4096, dV (dimsI op ns num ds)) | _, _ => none := rfl
end Go.Proofs.Ytjlcbojpiieafaa

/- The two ways to the element type of a result agree. -/
namespace Go.Proofs.Ytjlcbojpiieafaa
open Go Go.Fw

theorem resR_cons {op t : ByteArray} {r : List ByteArray} {i : Int} {free : ByteArray} : resR op (t :: r) i free = if noEl t = true then (ByteArray.empty, false)
    else if (selS op && (i == 1)) = true then (if (!eqS t sInt) = true then (ByteArray.empty, false) else resR op r (i + 1) free)
    else if (!eqS free ByteArray.empty && !eqS free t) = true then (ByteArray.empty, false) else resR op r (i + 1) t := rfl
theorem resR_nil {op : ByteArray} {i : Int} {free : ByteArray} : resR op [] i free = if eqS op n_iota = true then (sInt, true) else (free, true) := rfl
theorem resR_bad {op : ByteArray} : ∀ (l : List ByteArray) (i : Int) (free : ByteArray), l.any noEl = true → resR op l i free = (ByteArray.empty, false)
  | [], _, _, h => by simp at h
  | t :: r, i, free, h => by
    unfold resR
    by_cases h1 : noEl t = true
    · rw [if_pos h1]
    · have h2 : r.any noEl = true := by rw [List.any_cons] at h; simpa [h1] using h
      rw [if_neg h1, resR_bad r _ _ h2, resR_bad r _ _ h2]
      split <;> split <;> rfl
theorem el_ne {t : ByteArray} (h : noEl t = false) : eqS t ByteArray.empty = false := by
  unfold noEl at h
  cases h1 : eqS t ⟨#[105, 110, 116]⟩ with
  | true => rw [eqS_iff.1 h1]; rfl
  | false =>
    rw [h1] at h
    have h2 : eqS t ⟨#[98, 111, 111, 108]⟩ = true := by simpa using h
    rw [eqS_iff.1 h2]; rfl
theorem resR_run {op : ByteArray} : ∀ (l : List ByteArray) (i : Int) (free : ByteArray), (selS op = false ∨ 2 ≤ i) → l.any noEl = false → eqS free ByteArray.empty = false →
    resR op l i free = if (l.any fun t => !eqS t free) = true then (ByteArray.empty, false) else resR op [] 0 free
  | [], i, free, _, _, _ => by simp [resR]
  | t :: r, i, free, hs, hn, hf => by
    rw [List.any_cons, Bool.or_eq_false_iff] at hn
    have h1 : (selS op && (i == 1)) = false := by
      rcases hs with hs | hs
      · rw [hs]; rfl
      · have : (i == 1) = false := by rw [beq_eq_false_iff_ne]; omega
        rw [this]; simp
    rw [resR_cons, if_neg (by rw [hn.1]; decide), if_neg (by rw [h1]; decide), hf]
    cases he : eqS free t with
    | true =>
      have e : free = t := eqS_iff.1 he
      subst e
      rw [if_neg (by decide), resR_run r (i + 1) free (by rcases hs with hs | hs; exact .inl hs; exact .inr (by omega)) hn.2 hf, List.any_cons, eqS_refl]
      rfl
    | false =>
      rw [if_pos (by decide), List.any_cons, eqS_symm t free, he]
      rfl
theorem iota_len {op : ByteArray} {n : Nat} (h : (ranksI op n).2 = true) : (n = 0 ↔ eqS op n_iota = true) := by
  unfold ranksI at h
  rcases op_cases op with rfl | rfl | rfl | rfl | rfl | rfl | rfl | rfl | rfl | rfl | rfl | rfl | rfl | hno
  · rw [show findS n_iota (n : Int) = (ents.getD 0 ent0, true) from rfl] at h
    have e : eqS n_iota n_iota = true := rfl
    rw [e]
    split at h
    · cases h
    · rename_i hh; simp [ents] at hh; simp; omega
  · rw [show findS n_fill (n : Int) = (ents.getD 1 ent0, true) from rfl] at h
    have e : eqS n_fill n_iota = false := rfl
    rw [e]
    split at h
    · cases h
    · rename_i hh; simp [ents] at hh; simp; omega
  · rw [show findS n_take (n : Int) = (ents.getD 2 ent0, true) from rfl] at h
    have e : eqS n_take n_iota = false := rfl
    rw [e]
    split at h
    · cases h
    · rename_i hh; simp [ents] at hh; simp; omega
  · rw [show findS n_drop (n : Int) = (ents.getD 3 ent0, true) from rfl] at h
    have e : eqS n_drop n_iota = false := rfl
    rw [e]
    split at h
    · cases h
    · rename_i hh; simp [ents] at hh; simp; omega
  · rw [show findS n_reverse (n : Int) = (ents.getD 4 ent0, true) from rfl] at h
    have e : eqS n_reverse n_iota = false := rfl
    rw [e]
    split at h
    · cases h
    · rename_i hh; simp [ents] at hh; simp; omega
  · rw [show findS n_append (n : Int) = (ents.getD 5 ent0, true) from rfl] at h
    have e : eqS n_append n_iota = false := rfl
    rw [e]
    split at h
    · cases h
    · rename_i hh; simp [ents] at hh; simp; omega
  · rw [show findS n_transpose (n : Int) = (ents.getD 6 ent0, true) from rfl] at h
    have e : eqS n_transpose n_iota = false := rfl
    rw [e]
    split at h
    · cases h
    · rename_i hh; simp [ents] at hh; simp; omega
  · rw [show findS n_diagonal (n : Int) = (ents.getD 7 ent0, true) from rfl] at h
    have e : eqS n_diagonal n_iota = false := rfl
    rw [e]
    split at h
    · cases h
    · rename_i hh; simp [ents] at hh; simp; omega
  · rw [show findS n_windows (n : Int) = (ents.getD 8 ent0, true) from rfl] at h
    have e : eqS n_windows n_iota = false := rfl
    rw [e]
    split at h
    · cases h
    · rename_i hh; simp [ents] at hh; simp; omega
  · rw [show findS n_chunk (n : Int) = (ents.getD 9 ent0, true) from rfl] at h
    have e : eqS n_chunk n_iota = false := rfl
    rw [e]
    split at h
    · cases h
    · rename_i hh; simp [ents] at hh; simp; omega
  · rw [show findS n_index (n : Int) = (ents.getD 10 ent0, true) from rfl] at h
    have e : eqS n_index n_iota = false := rfl
    rw [e]
    split at h
    · cases h
    · rename_i hh; simp [ents] at hh; simp; omega
  · rw [show findS n_update (n : Int) = (ents.getD 11 ent0, true) from rfl] at h
    have e : eqS n_update n_iota = false := rfl
    rw [e]
    split at h
    · cases h
    · rename_i hh; simp [ents] at hh; simp; omega
  · rw [show findS n_pack (n : Int) = (packE n, true) from rfl] at h
    have e : eqS n_pack n_iota = false := rfl
    rw [e]
    split at h
    · cases h
    · rename_i hh
      simp only [packE, List.length_replicate, maxI] at hh
      constructor
      · intro h0; subst h0; exact absurd hh (by simp)
      · intro h0; cases h0
  · rw [find_no hno] at h; simp at h
theorem result_eq {op : ByteArray} {l : List ByteArray} (hl : l.length ≤ 4096) : rresS op l = resultS op l := by
  unfold rresS resultS
  rw [ranks_eq (by omega) (by omega)]
  cases hr : (ranksI op l.length).2 with
  | false => rw [if_pos rfl, if_pos (.inl rfl)]
  | true =>
    rw [if_neg (by decide)]
    cases hn : l.any noEl with
    | true => rw [resR_bad l _ _ hn, if_pos (.inr rfl)]
    | false =>
      rw [if_neg (by simp)]
      have hz := iota_len hr
      unfold sameS
      cases hs : selS op with
      | true =>
        have hlen := sel_len hr hs
        match l, hlen, hn, hz with
        | a :: b :: r, _, hn, hz =>
          simp only [List.any_cons, Bool.or_eq_false_iff] at hn
          have hi : eqS op n_iota = false := by
            cases h : eqS op n_iota with
            | false => rfl
            | true => have := hz.2 h; simp at this
          have ha := el_ne hn.1
          rw [resR_cons, if_neg (by rw [hn.1]; decide), if_neg (by rw [hs]; decide), eqS_refl, if_neg (by simp), resR_cons, if_neg (by rw [hn.2.1]; decide), if_pos (by rw [hs]; rfl)]
          simp only [List.getD_cons_succ, List.getD_cons_zero, List.eraseIdx, if_true, true_and]
          cases hb : eqS b sInt with
          | false => simp
          | true =>
            rw [if_neg (by decide), if_neg (by decide), if_neg (by simp), resR_run r _ a (.inr (by omega)) hn.2.2 ha, List.any_cons, eqS_refl, resR_nil, hi]
            rfl
      | false =>
        rw [if_neg (by simp)]
        simp only [Bool.false_eq_true, if_false]
        match l, hn, hz with
        | [], _, hz => rw [resR_nil, if_pos (hz.1 rfl), if_pos rfl]
        | a :: r, hn, hz =>
          simp only [List.any_cons, Bool.or_eq_false_iff] at hn
          have hi : eqS op n_iota = false := by
            cases h : eqS op n_iota with
            | false => rfl
            | true => have := hz.2 h; simp at this
          have ha := el_ne hn.1
          rw [resR_cons, if_neg (by rw [hn.1]; decide), if_neg (by rw [hs]; decide), eqS_refl, if_neg (by simp), if_neg (by simp), resR_run r _ a (.inl hs) hn.2 ha, List.getD_cons_zero, List.any_cons, eqS_refl, resR_nil, hi]
          rfl
end Go.Proofs.Ytjlcbojpiieafaa

/- The primitives, one by one: their sizes, and the dimensions of what they take and give. -/
namespace Go.Proofs.Ytjlcbojpiieafaa
open Go Go.Fw

def dm (n : Int) : Prop := 0 ≤ n ∧ n ≤ 4096
inductive Shp : ByteArray → List Int → Int → List (List Int) → List Int → Prop
  | iota (k : Int) : dm k → Shp n_iota [k] 0 [] [k]
  | fill (k : Int) : dm k → Shp n_fill [k] 0 [[]] [k]
  | take (k n : Int) : dm k → dm n → k ≤ n → Shp n_take [k] 0 [[n]] [k]
  | drop (k n : Int) : dm k → dm n → k ≤ n → Shp n_drop [k] 0 [[n]] [n - k]
  | reverse (n : Int) : dm n → Shp n_reverse [] 0 [[n]] [n]
  | append (m n : Int) : dm m → dm n → Shp n_append [] 0 [[m], [n]] [m + n]
  | transpose (m n : Int) : dm m → dm n → Shp n_transpose [] 0 [[m, n]] [n, m]
  | diagonal (n : Int) : dm n → Shp n_diagonal [] 0 [[n, n]] [n]
  | windows (k n : Int) : dm k → dm n → k ≤ n → Shp n_windows [k] 0 [[n]] [n - k + 1, k]
  | chunk (c q : Int) : 1 ≤ c → c ≤ 64 → dm q → dm (q * c) → Shp n_chunk [] c [[q * c]] [q, c]
  | index (n : Int) : dm n → Shp n_index [] 0 [[n], []] []
  | update (n : Int) : dm n → Shp n_update [] 0 [[n], [], []] [n]
  | pack (m : Nat) : 1 ≤ m → m ≤ 4096 → Shp n_pack [] 0 (List.replicate m []) [(m : Int)]
theorem w64_dm {n : Int} (h : -9000000000000 ≤ n ∧ n ≤ 9000000000000) : w64 n = n := wrap_i64 (by unfold inI64; omega)
theorem partS_ok {k n : Int} (h : partS k n = 0) : 0 ≤ k ∧ k ≤ n := by
  unfold partS at h
  split at h
  · cases h
  · omega
theorem rk_pack : ∀ {ds : List (List Int)}, rkBad ds (List.replicate ds.length 0) = false → ds = List.replicate ds.length []
  | [], _ => rfl
  | a :: ds, h => by
    rw [List.length_cons, List.replicate_succ, rkBad] at h
    split at h
    · cases h
    · rename_i hne
      have ha : a = [] := len0 (by simpa using hne)
      rw [List.length_cons, List.replicate_succ, ← rk_pack h, ha]
set_option maxHeartbeats 1000000 in
theorem shp_of {op : ByteArray} {ns : List Int} {num : Int} {ds : List (List Int)} {d : List Int} (h : dimsI op ns num ds = (d, 0)) :
    Shp op ns num ds d ∧ (sizeS d).2 = 0 ∧ szErr ds = 0 ∧ ∃ e, givenS op ns.length num ds.length = (e, 0) := by
  unfold dimsI at h
  generalize hG : givenS op ns.length num ds.length = r at h
  obtain ⟨e, er⟩ := r
  simp only at h
  by_cases h0 : er = 0
  · subst h0
    rw [if_neg (by simp)] at h
    obtain ⟨-, hl, hw, hnum, -, hfs⟩ := given_ok hG
    by_cases hr : rkBad ds e.ranks = true
    · rw [if_pos hr] at h; cases h
    rw [if_neg hr] at h
    by_cases hz : szErr ds = 0
    · rw [if_neg (by simpa using hz)] at h
      have hr : rkBad ds e.ranks = false := by simpa using hr
      have hbd := ofSz hz
      unfold dimsOf at h
      by_cases h3 : (dimsS (e.dims.getD 0) (sizeK ns num) ds).2 = 0
      · rw [if_neg (by simpa using h3)] at h
        by_cases h4 : (sizeS (dimsS (e.dims.getD 0) (sizeK ns num) ds).1).2 = 0
        · rw [if_neg (by simpa using h4)] at h
          injection h with hd _
          subst hd
          refine ⟨?_, h4, hz, e, rfl⟩
          have hb4 := (sizeS_ok (n := (sizeS (dimsS (e.dims.getD 0) (sizeK ns num) ds).1).1) (Prod.ext rfl h4)).2.1
          clear h4 hG
          rcases op_cases op with rfl | rfl | rfl | rfl | rfl | rfl | rfl | rfl | rfl | rfl | rfl | rfl | rfl | hno
          · obtain rfl := giv_e hfs (show findS n_iota ds.length = (ents.getD 0 ent0, true) from rfl)
            simp only [ents, List.getD_cons_zero, List.getD_cons_succ, wantS, Option.getD_some, dimsS] at hl hw hr h3 hb4 ⊢
            obtain ⟨k, rfl⟩ := len1' (a := ns) (by simpa using hw)
            obtain rfl : num = 0 := by rcases hnum with h | h; exact h; cases h
            obtain rfl := shape0 hl
            simp only [sizeK, reduceCtorEq, if_false, List.getD_cons_zero, List.getD_cons_succ] at h3 hb4 ⊢
            have hk := hb4 k (by simp)
            exact .iota k hk
          · obtain rfl := giv_e hfs (show findS n_fill ds.length = (ents.getD 1 ent0, true) from rfl)
            simp only [ents, List.getD_cons_zero, List.getD_cons_succ, wantS, Option.getD_some, dimsS] at hl hw hr h3 hb4 ⊢
            obtain ⟨k, rfl⟩ := len1' (a := ns) (by simpa using hw)
            obtain rfl : num = 0 := by rcases hnum with h | h; exact h; cases h
            obtain ⟨a, rfl, ha⟩ := shape1 hl hr
            obtain rfl := len0 ha
            simp only [sizeK, reduceCtorEq, if_false, List.getD_cons_zero, List.getD_cons_succ] at h3 hb4 ⊢
            have hk := hb4 k (by simp)
            exact .fill k hk
          · obtain rfl := giv_e hfs (show findS n_take ds.length = (ents.getD 2 ent0, true) from rfl)
            simp only [ents, List.getD_cons_zero, List.getD_cons_succ, wantS, Option.getD_some, dimsS] at hl hw hr h3 hb4 ⊢
            obtain ⟨k, rfl⟩ := len1' (a := ns) (by simpa using hw)
            obtain rfl : num = 0 := by rcases hnum with h | h; exact h; cases h
            obtain ⟨a, rfl, ha⟩ := shape1 hl hr
            obtain ⟨n, rfl⟩ := len1' ha
            have hn := hbd [n] (by simp) n (by simp)
            simp only [sizeK, reduceCtorEq, if_false, List.getD_cons_zero, List.getD_cons_succ] at h3 hb4 ⊢
            have hk := hb4 k (by simp)
            have hp := partS_ok h3
            exact .take k n hk hn hp.2
          · obtain rfl := giv_e hfs (show findS n_drop ds.length = (ents.getD 3 ent0, true) from rfl)
            simp only [ents, List.getD_cons_zero, List.getD_cons_succ, wantS, Option.getD_some, dimsS] at hl hw hr h3 hb4 ⊢
            obtain ⟨k, rfl⟩ := len1' (a := ns) (by simpa using hw)
            obtain rfl : num = 0 := by rcases hnum with h | h; exact h; cases h
            obtain ⟨a, rfl, ha⟩ := shape1 hl hr
            obtain ⟨n, rfl⟩ := len1' ha
            have hn := hbd [n] (by simp) n (by simp)
            simp only [sizeK, reduceCtorEq, if_false, List.getD_cons_zero, List.getD_cons_succ] at h3 hb4 ⊢
            have hp := partS_ok h3
            rw [w64_dm (by omega)]
            exact .drop k n ⟨hp.1, by omega⟩ hn hp.2
          · obtain rfl := giv_e hfs (show findS n_reverse ds.length = (ents.getD 4 ent0, true) from rfl)
            simp only [ents, List.getD_cons_zero, List.getD_cons_succ, wantS, Option.getD_some, dimsS] at hl hw hr h3 hb4 ⊢
            obtain rfl := len0 (a := ns) (by simpa using hw)
            obtain rfl : num = 0 := by rcases hnum with h | h; exact h; cases h
            obtain ⟨a, rfl, ha⟩ := shape1 hl hr
            obtain ⟨n, rfl⟩ := len1' ha
            have hn := hbd [n] (by simp) n (by simp)
            try simp only [sizeK, reduceIte, List.getD_cons_zero, List.getD_cons_succ] at h3 hb4 ⊢
            exact .reverse n hn
          · obtain rfl := giv_e hfs (show findS n_append ds.length = (ents.getD 5 ent0, true) from rfl)
            simp only [ents, List.getD_cons_zero, List.getD_cons_succ, wantS, Option.getD_some, dimsS] at hl hw hr h3 hb4 ⊢
            obtain rfl := len0 (a := ns) (by simpa using hw)
            obtain rfl : num = 0 := by rcases hnum with h | h; exact h; cases h
            obtain ⟨a, b, rfl, ha, hb⟩ := shape2 hl hr
            obtain ⟨m, rfl⟩ := len1' ha
            obtain ⟨n, rfl⟩ := len1' hb
            have hm := hbd [m] (by simp) m (by simp)
            have hn := hbd [n] (by simp) n (by simp)
            try simp only [sizeK, reduceIte, List.getD_cons_zero, List.getD_cons_succ] at h3 hb4 ⊢
            exact .append m n hm hn
          · obtain rfl := giv_e hfs (show findS n_transpose ds.length = (ents.getD 6 ent0, true) from rfl)
            simp only [ents, List.getD_cons_zero, List.getD_cons_succ, wantS, Option.getD_some, dimsS] at hl hw hr h3 hb4 ⊢
            obtain rfl := len0 (a := ns) (by simpa using hw)
            obtain rfl : num = 0 := by rcases hnum with h | h; exact h; cases h
            obtain ⟨a, rfl, ha⟩ := shape1 hl hr
            obtain ⟨m, n, rfl⟩ := len2' ha
            have hm := hbd [m, n] (by simp) m (by simp)
            have hn := hbd [m, n] (by simp) n (by simp)
            try simp only [sizeK, reduceIte, List.getD_cons_zero, List.getD_cons_succ] at h3 hb4 ⊢
            exact .transpose m n hm hn
          · obtain rfl := giv_e hfs (show findS n_diagonal ds.length = (ents.getD 7 ent0, true) from rfl)
            simp only [ents, List.getD_cons_zero, List.getD_cons_succ, wantS, Option.getD_some, dimsS] at hl hw hr h3 hb4 ⊢
            obtain rfl := len0 (a := ns) (by simpa using hw)
            obtain rfl : num = 0 := by rcases hnum with h | h; exact h; cases h
            obtain ⟨a, rfl, ha⟩ := shape1 hl hr
            obtain ⟨m, n, rfl⟩ := len2' ha
            have hm := hbd [m, n] (by simp) m (by simp)
            have hn := hbd [m, n] (by simp) n (by simp)
            try simp only [sizeK, reduceIte, List.getD_cons_zero, List.getD_cons_succ] at h3 hb4 ⊢
            by_cases he : m = n
            · subst he
              rw [if_neg (by simp)]
              exact .diagonal m hm
            · rw [if_pos he] at h3; cases h3
          · obtain rfl := giv_e hfs (show findS n_windows ds.length = (ents.getD 8 ent0, true) from rfl)
            simp only [ents, List.getD_cons_zero, List.getD_cons_succ, wantS, Option.getD_some, dimsS] at hl hw hr h3 hb4 ⊢
            obtain ⟨k, rfl⟩ := len1' (a := ns) (by simpa using hw)
            obtain rfl : num = 0 := by rcases hnum with h | h; exact h; cases h
            obtain ⟨a, rfl, ha⟩ := shape1 hl hr
            obtain ⟨n, rfl⟩ := len1' ha
            have hn := hbd [n] (by simp) n (by simp)
            simp only [sizeK, reduceCtorEq, if_false, List.getD_cons_zero, List.getD_cons_succ] at h3 hb4 ⊢
            have hp := partS_ok h3
            rw [w64_dm (n := n - k) (by omega), w64_dm (by omega)]
            exact .windows k n ⟨hp.1, by omega⟩ hn hp.2
          · obtain rfl := giv_e hfs (show findS n_chunk ds.length = (ents.getD 9 ent0, true) from rfl)
            simp only [ents, List.getD_cons_zero, List.getD_cons_succ, wantS, Option.getD_some, dimsS] at hl hw hr h3 hb4 ⊢
            obtain rfl := len0 (a := ns) (by simpa using hw)
            obtain ⟨a, rfl, ha⟩ := shape1 hl hr
            obtain ⟨n, rfl⟩ := len1' ha
            have hn := hbd [n] (by simp) n (by simp)
            try simp only [sizeK, reduceIte, List.getD_cons_zero, List.getD_cons_succ] at h3 hb4 ⊢
            by_cases hc : num < 1 ∨ num > 64
            · rw [if_pos hc] at h3; cases h3
            by_cases hm : n.tmod num = 0
            · rw [if_neg hc, if_neg (by simpa using hm)] at hb4 ⊢
              have hq := hb4 (n.tdiv num) (by simp)
              have e : n = n.tdiv num * num := by have := Int.tmod_add_mul_tdiv n num; rw [hm, Int.mul_comm] at this; omega
              generalize n.tdiv num = q at hq e
              subst e
              exact .chunk num q (by omega) (by omega) hq hn
            · rw [if_neg hc, if_pos (by simpa using hm)] at h3; cases h3
          · obtain rfl := giv_e hfs (show findS n_index ds.length = (ents.getD 10 ent0, true) from rfl)
            simp only [ents, List.getD_cons_zero, List.getD_cons_succ, wantS, Option.getD_some, dimsS] at hl hw hr h3 hb4 ⊢
            obtain rfl := len0 (a := ns) (by simpa using hw)
            obtain rfl : num = 0 := by rcases hnum with h | h; exact h; cases h
            obtain ⟨a, b, rfl, ha, hb⟩ := shape2 hl hr
            obtain ⟨n, rfl⟩ := len1' ha
            obtain rfl := len0 hb
            have hn := hbd [n] (by simp) n (by simp)
            try simp only [sizeK, reduceIte, List.getD_cons_zero, List.getD_cons_succ] at h3 hb4 ⊢
            exact .index n hn
          · obtain rfl := giv_e hfs (show findS n_update ds.length = (ents.getD 11 ent0, true) from rfl)
            simp only [ents, List.getD_cons_zero, List.getD_cons_succ, wantS, Option.getD_some, dimsS] at hl hw hr h3 hb4 ⊢
            obtain rfl := len0 (a := ns) (by simpa using hw)
            obtain rfl : num = 0 := by rcases hnum with h | h; exact h; cases h
            obtain ⟨a, b, c, rfl, ha, hb, hc⟩ := shape3 hl hr
            obtain ⟨n, rfl⟩ := len1' ha
            obtain rfl := len0 hb
            obtain rfl := len0 hc
            have hn := hbd [n] (by simp) n (by simp)
            try simp only [sizeK, reduceIte, List.getD_cons_zero, List.getD_cons_succ] at h3 hb4 ⊢
            exact .update n hn
          · obtain rfl := giv_e hfs (show findS n_pack ds.length = (packE ds.length, true) from rfl)
            simp only [ents, List.getD_cons_zero, List.getD_cons_succ, wantS, Option.getD_some, dimsS, packE] at hl hw hr h3 hb4 ⊢
            obtain rfl := len0 (a := ns) (by simpa using hw)
            obtain rfl : num = 0 := by rcases hnum with h | h; exact h; cases h
            have hlen := hb4 (ds.length : Int) (by simp)
            have e : (maxI (ds.length : Int) 1).toNat = ds.length := by simp only [List.length_replicate] at hl; omega
            rw [e] at hr
            have hds := rk_pack hr
            have h1 : 1 ≤ ds.length := by unfold maxI at e; split at e <;> omega
            rw [hds]
            simp only [List.length_replicate]
            exact .pack _ h1 (by omega)
          · exfalso
            have e2 := find_no (n := ds.length) hno
            rw [hfs] at e2
            cases e2
        · rw [if_pos (by simpa using h4)] at h; injection h with _ h2; exact absurd h2 h4
      · rw [if_pos (by simpa using h3)] at h; injection h with _ h2; exact absurd h2 h3
    · rw [if_pos (by simpa using hz)] at h; injection h with _ h2; exact absurd h2 hz
  · rw [if_pos h0] at h; injection h with _ h2; exact absurd h2 h0
end Go.Proofs.Ytjlcbojpiieafaa

/- Places and indices. -/
namespace Go.Proofs.Ytjlcbojpiieafaa
open Go Go.Fw

def offS (d ix : List Int) : Int × Int := if (sizeS d).2 ≠ 0 then (0, (sizeS d).2) else if ix.length ≠ d.length then (0, 13) else match atS d ix 0 with
  | none => (0, 2)
  | some k => (k, 0)
/-- The digits of a number, the last place first, by the dimensions from the last one on. -/
def digR : List Int → Int → List Int
  | [], _ => []
  | d :: t, o => o.tmod d :: digR t (o.tdiv d)
def idxS (d : List Int) (o : Int) : List Int × Int := if (sizeS d).2 ≠ 0 then ([], (sizeS d).2) else if o < 0 ∨ o ≥ (sizeS d).1 then ([], 2) else ((digR d.reverse o).reverse, 0)
def ixV (p : List Int × Int) : AV := .tup [.sl false 1 (ints .i64 p.1), .lit (.int .i64 p.2)]
theorem ixV_def {p : List Int × Int} : ixV p = .tup [.sl false 1 (ints .i64 p.1), .lit (.int .i64 p.2)] := rfl
theorem ixE_le {e : Int} : LeA (.tup [.lit (.slice none 0 0), .lit (.int .i64 e)]) (ixV ([], e)) := LeA.tup ⟨LeA.nil _ _, LeA.refl _, trivial⟩
theorem digR_len : ∀ (l : List Int) (o : Int), (digR l o).length = l.length
  | [], _ => rfl
  | d :: t, o => by simp [digR, digR_len t]
theorem ints_set' (l : List Int) (i : Nat) (v : Int) : (ints .i64 l).set i (.lit (.int .i64 v)) = ints .i64 (l.set i v) := by simp [ints, List.map_set]
theorem set_rep (m : Nat) (T : List Int) (v : Int) : (List.replicate (m + 1) 0 ++ T).set m v = List.replicate m 0 ++ v :: T := by
  rw [List.replicate_succ', List.append_assoc, List.set_append_right _ _ (by simp)]
  simp
theorem getD_mem {α : Type} {l : List α} {i : Nat} (z : α) (h : i < l.length) : l.getD i z ∈ l := by
  rw [List.getD_eq_getElem?_getD, List.getElem?_eq_getElem h]; exact List.getElem_mem _
theorem tdm {o d : Int} (ho : 0 ≤ o) (hd : 1 ≤ d) : 0 ≤ o.tdiv d ∧ o.tdiv d ≤ o ∧ 0 ≤ o.tmod d ∧ o.tmod d < d := by
  rw [Int.tdiv_eq_ediv_of_nonneg ho, Int.tmod_eq_emod_of_nonneg ho]
  exact ⟨Int.ediv_nonneg ho (by omega), Int.ediv_le_self _ ho, Int.emod_nonneg _ (by omega), Int.emod_lt_of_pos _ (by omega)⟩
/-- Where there is a place, no dimension is 0. -/
theorem dims_pos {d : List Int} {n o : Int} (hS : sizeS d = (n, 0)) (ho : 0 ≤ o) (hn : o < n) : ∀ x ∈ d, 1 ≤ x := by
  obtain ⟨_, h2, h3, _⟩ := sizeS_ok hS
  exact not_any_zero h2 fun h => by rw [h3, prI_zero h] at hn; omega
structure Lo (d ix : List Int) (G : Option Int) where
  i : Nat
  k : Int
  hi : i ≤ d.length
  hk : 0 ≤ k
  hk' : k < prI (d.take i)
  hF : atS (d.drop i) (ix.drop i) k = G
structure Li (d : List Int) (G : List Int) where
  i : Nat
  o : Int
  T : List Int
  hi : i ≤ d.length
  ho : 0 ≤ o ∧ o ≤ 4096
  hT : T.length = i
  hF : (digR (d.reverse.drop i) o).reverse ++ T = G
noncomputable def E42 : Env := envOf (P := Try.prog) zer (fun _ => false) (fun _ => false) [con65] []
theorem E42_ok : EnvOk Try.prog E42 := envOk zer_ok
set_option maxRecDepth 20000 in
set_option maxHeartbeats 4000000 in
theorem idx_pc {d : List Int} {o : Int} (hl : d.length ≤ 1000000) : PC Try.prog 95 [.sl false 1 (ints .i64 d), .lit (.int .i64 o)] (ixV (idxS d o)) := by
  unfold idxS
  generalize hS : sizeS d = s
  obtain ⟨n, er⟩ := s
  simp only
  by_cases e0 : er = 0
  · subst e0
    rw [if_neg (by simp)]
    by_cases o1 : o < 0
    · have o1' : decide (o < 0) = true := decide_eq_true o1
      rw [if_pos (.inl o1)]
      refine pc_of E42_ok mixed (fun _ => [0, 1, 4, 5, 6, 7, 8, 9, 10, 17, 25, 30, 31, 32]) Try.func95 rfl (by kernel_rfl) (Nat.le_of_ble_eq_true rfl) ?_
      simp only [initF_cons, initF_nil, Nat.reduceAdd]
      refine t_name fun KF => ?_
      unfold E42
      repeat' (first
       | (with_reducible first | refine t_seq fun K => ?_ | refine t_block ?_ | refine t_scope ?_ | refine t_label ?_ | refine t_skip ?_ | refine t_exit ?_ | refine t_ret ?_ | refine t_k ?_ | refine t_gF ?_ | exact kp_nil | exact Kp.refl _ | exact kp_to | refine kp_cons ?_ | refine kp_arr ?_ | refine kp_app ?_ | refine t_p ?_ | refine t_br (fun hc => ?_) fun hc => ?_)
       | ((with_reducible first | refine t_kE ?_ | refine t_kD ?_ | refine t_gS ?_ | refine t_kL ?_ | refine t_kLF ?_ ?_ | refine t_region fun K => ?_ | refine t_cond fun A B => ?_ | refine t_draw (by kernel_rfl) fun K => ?_); simp only [go_sem, geff, con65_f, con65_c, slK_sl, hS, szV_def, o1'])
       | ((with_reducible refine kp_skip ?_ ?_); rfl) | simp only [thenQ, blockQ, scopeQ, Nat.reduceEqDiff, reduceIte] | (with_reducible first | refine And.intro ?_ ?_ | intro vr))
      all_goals try (intros; (try simp only [Bool.and_eq_true, Bool.or_eq_true, Bool.not_eq_true', decide_eq_true_eq, decide_eq_false_iff_not, beq_iff_eq, bne_iff_ne, ne_eq, inI64, List.length_append] at *) <;> omega)
      refine end_ret rfl ?_
      simp only [fin, go_sem]
      exact ixE_le
    · have o1' : decide (o < 0) = false := decide_eq_false o1
      by_cases o2 : o ≥ n
      · have o2' : decide (o ≥ n) = true := decide_eq_true o2
        rw [if_pos (.inr o2)]
        refine pc_of E42_ok mixed (fun _ => [0, 1, 4, 5, 6, 7, 8, 9, 10, 17, 25, 30, 31, 32]) Try.func95 rfl (by kernel_rfl) (Nat.le_of_ble_eq_true rfl) ?_
        simp only [initF_cons, initF_nil, Nat.reduceAdd]
        refine t_name fun KF => ?_
        unfold E42
        repeat' (first
         | (with_reducible first | refine t_seq fun K => ?_ | refine t_block ?_ | refine t_scope ?_ | refine t_label ?_ | refine t_skip ?_ | refine t_exit ?_ | refine t_ret ?_ | refine t_k ?_ | refine t_gF ?_ | exact kp_nil | exact Kp.refl _ | exact kp_to | refine kp_cons ?_ | refine kp_arr ?_ | refine kp_app ?_ | refine t_p ?_ | refine t_br (fun hc => ?_) fun hc => ?_)
         | ((with_reducible first | refine t_kE ?_ | refine t_kD ?_ | refine t_gS ?_ | refine t_kL ?_ | refine t_kLF ?_ ?_ | refine t_region fun K => ?_ | refine t_cond fun A B => ?_ | refine t_draw (by kernel_rfl) fun K => ?_); simp only [go_sem, geff, con65_f, con65_c, slK_sl, hS, szV_def, o1', o2'])
         | ((with_reducible refine kp_skip ?_ ?_); rfl) | simp only [thenQ, blockQ, scopeQ, Nat.reduceEqDiff, reduceIte] | (with_reducible first | refine And.intro ?_ ?_ | intro vr))
        all_goals try (intros; (try simp only [Bool.and_eq_true, Bool.or_eq_true, Bool.not_eq_true', decide_eq_true_eq, decide_eq_false_iff_not, beq_iff_eq, bne_iff_ne, ne_eq, inI64, List.length_append] at *) <;> omega)
        refine end_ret rfl ?_
        simp only [fin, go_sem]
        exact ixE_le
      · have o2' : decide (o ≥ n) = false := decide_eq_false o2
        rw [if_neg (by omega)]
        have hn := (sizeS_ok hS).2.2.2
        have hp := dims_pos hS (by omega) (show o < n by omega)
        generalize hG : (digR d.reverse o).reverse = G
        refine pc_of E42_ok mixed (fun _ => [0, 1, 4, 5, 6, 7, 8, 9, 10, 17, 25, 30, 31, 32]) Try.func95 rfl (by kernel_rfl) (Nat.le_of_ble_eq_true rfl) ?_
        simp only [initF_cons, initF_nil, Nat.reduceAdd]
        refine t_name fun KF => ?_
        unfold E42
        repeat' (first
         | (with_reducible first | refine t_seq fun K => ?_ | refine t_block ?_ | refine t_scope ?_ | refine t_label ?_ | refine t_skip ?_ | refine t_exit ?_ | refine t_ret ?_ | refine t_k ?_ | refine t_gF ?_ | exact kp_nil | exact Kp.refl _ | exact kp_to | refine kp_cons ?_ | refine kp_arr ?_ | refine kp_app ?_ | refine t_p ?_ | refine t_br (fun hc => ?_) fun hc => ?_)
         | ((with_reducible first | refine t_kE ?_ | refine t_kD ?_ | refine t_gS ?_ | refine t_kL ?_ | refine t_kLF ?_ ?_ | refine t_region fun K => ?_ | refine t_cond fun A B => ?_ | refine t_draw (by kernel_rfl) fun K => ?_); simp only [go_sem, geff, con65_f, con65_c, slK_sl, hS, szV_def, o1', o2', rep_ints, Int.toNat_natCast])
         | ((with_reducible refine kp_skip ?_ ?_); rfl) | simp only [thenQ, blockQ, scopeQ, Nat.reduceEqDiff, reduceIte] | (with_reducible first | refine And.intro ?_ ?_ | intro vr))
        all_goals try (intros; (try simp only [Bool.and_eq_true, Bool.or_eq_true, Bool.not_eq_true', decide_eq_true_eq, decide_eq_false_iff_not, beq_iff_eq, bne_iff_ne, ne_eq, inI64, List.length_append] at *) <;> omega)
        refine t_loop (ι := Li d G) (fun i => ⟨upd (upd (upd (upd (upd topF 8 (.arr 0 0)) 1 (.lit (.int .i64 i.o))) 0 (.sl false 1 (ints .i64 d))) 31 (.lit (.int .i64 i.i))) 30 (.lit (.int .i64 d.length)), [.arr 3 1 (ints .i64 (List.replicate (d.length - i.i) 0 ++ i.T)) 0 false]⟩) (fun i => d.length - i.i) ⟨0, o, [], by omega, by omega, rfl, by simpa using hG⟩ ?_ ?_
        · skip
          (refine Le.frameS ?gs1 ?_; rotate_left; repeat' (first | exact leF_top _ | (with_reducible refine leF_sl ?_ ?_) | (refine leF_upd (LeR.of_eq ?_) ?_))) <;> (try (simp only [go_sem]; try rfl))
          all_goals (first | omega | simp)
        · rintro ⟨i, v, T, hi, hv, hT, hF⟩ K0
          rcases Nat.lt_or_ge i d.length with hc | hc
          · have g1 : decide ((i : Int) < (d.length : Int)) = true := decide_eq_true (by omega)
            have hi1 : ((d.length : Int) - 1 - (i : Int)).toNat = d.length - 1 - i := by omega
            have g2 := ints_getD .i64 d (d.length - 1 - i) (by omega)
            have hq := hp _ (getD_mem 0 (show d.length - 1 - i < d.length by omega))
            have hrv : d.reverse.drop i = d.getD (d.length - 1 - i) 0 :: d.reverse.drop (i + 1) := by
              rw [List.drop_eq_getElem_cons (by simpa using hc), List.getElem_reverse, List.getD_eq_getElem?_getD, List.getElem?_eq_getElem (by omega)]
              rfl
            rw [hrv, digR, List.reverse_cons, List.append_assoc] at hF
            generalize d.getD (d.length - 1 - i) 0 = q at g2 hq hF
            have z1 : (q == 0) = false := by rw [beq_eq_false_iff_ne]; omega
            have ht := tdm hv.1 hq
            have hst : (List.replicate (d.length - i) 0 ++ T).set (d.length - 1 - i) (v.tmod q) = List.replicate (d.length - (i + 1)) 0 ++ v.tmod q :: T := by
              have := set_rep (d.length - 1 - i) T (v.tmod q)
              rwa [show d.length - 1 - i + 1 = d.length - i by omega, show List.replicate (d.length - 1 - i) (0 : Int) = List.replicate (d.length - (i + 1)) 0 by congr 1; omega] at this
            have hln : (List.replicate (d.length - i) (0 : Int) ++ T).length = d.length := by simp [hT]; omega
            repeat' (first
             | (with_reducible first | refine t_seq fun K => ?_ | refine t_block ?_ | refine t_scope ?_ | refine t_label ?_ | refine t_skip ?_ | refine t_exit ?_ | refine t_ret ?_ | refine t_k ?_ | refine t_gF ?_ | exact kp_nil | exact Kp.refl _ | exact kp_to | refine kp_cons ?_ | refine kp_arr ?_ | refine kp_app ?_ | refine t_p ?_ | refine t_br (fun hc => ?_) fun hc => ?_)
             | ((with_reducible first | refine t_kE ?_ | refine t_kD ?_ | refine t_gS ?_ | refine t_kL ?_ | refine t_kLF ?_ ?_ | refine t_region fun K => ?_ | refine t_cond fun A B => ?_ | refine t_draw (by kernel_rfl) fun K => ?_); simp only [go_sem, geff, con65_f, g1, hi1, g2, z1, ints_set', hst, hln, ints_length, Int.toNat_natCast])
             | ((with_reducible refine kp_skip ?_ ?_); rfl) | simp only [thenQ, blockQ, scopeQ, Nat.reduceEqDiff, reduceIte] | (with_reducible first | refine And.intro ?_ ?_ | intro vr))
            all_goals try (intros; (try simp only [Bool.and_eq_true, Bool.or_eq_true, Bool.not_eq_true', decide_eq_true_eq, decide_eq_false_iff_not, beq_iff_eq, bne_iff_ne, ne_eq, inI64, List.length_append] at *) <;> omega)
            refine ⟨⟨i + 1, v.tdiv q, v.tmod q :: T, by omega, by omega, by simp [hT], hF⟩, by simp only; omega, ?_⟩
            (refine Le.frame ?_; repeat' (first | exact leF_top _ | (with_reducible refine leF_sl ?_ ?_) | (refine leF_upd (LeR.of_eq ?_) ?_))) <;> (try (simp only [go_sem]; try rfl))
            
          · have g1 : decide ((i : Int) < (d.length : Int)) = false := decide_eq_false (by omega)
            have : i = d.length := by omega
            subst this
            rw [List.drop_eq_nil_of_le (by simp), digR] at hF
            simp only [List.reverse_nil, List.nil_append] at hF
            subst hF
            repeat' (first
             | (with_reducible first | refine t_seq fun K => ?_ | refine t_block ?_ | refine t_scope ?_ | refine t_label ?_ | refine t_skip ?_ | refine t_exit ?_ | refine t_ret ?_ | refine t_k ?_ | refine t_gF ?_ | exact kp_nil | exact Kp.refl _ | exact kp_to | refine kp_cons ?_ | refine kp_arr ?_ | refine kp_app ?_ | refine t_p ?_ | refine t_br (fun hc => ?_) fun hc => ?_)
             | ((with_reducible first | refine t_kE ?_ | refine t_kD ?_ | refine t_gS ?_ | refine t_kL ?_ | refine t_kLF ?_ ?_ | refine t_region fun K => ?_ | refine t_cond fun A B => ?_ | refine t_draw (by kernel_rfl) fun K => ?_); simp only [go_sem, geff, con65_f, g1, Nat.sub_self, List.replicate_zero])
             | ((with_reducible refine kp_skip ?_ ?_); rfl) | simp only [thenQ, blockQ, scopeQ, Nat.reduceEqDiff, reduceIte] | (with_reducible first | refine And.intro ?_ ?_ | intro vr))
            refine end_ret rfl ?_
            simp only [fin, go_sem]
            exact LeA.refl _
  · have e1 : (er != 0) = true := bne_iff_ne.2 e0
    rw [if_pos e0]
    refine pc_of E42_ok mixed (fun _ => [0, 1, 4, 5, 6, 7, 8, 9, 10, 17, 25, 30, 31, 32]) Try.func95 rfl (by kernel_rfl) (Nat.le_of_ble_eq_true rfl) ?_
    simp only [initF_cons, initF_nil, Nat.reduceAdd]
    refine t_name fun KF => ?_
    unfold E42
    repeat' (first
     | (with_reducible first | refine t_seq fun K => ?_ | refine t_block ?_ | refine t_scope ?_ | refine t_label ?_ | refine t_skip ?_ | refine t_exit ?_ | refine t_ret ?_ | refine t_k ?_ | refine t_gF ?_ | exact kp_nil | exact Kp.refl _ | exact kp_to | refine kp_cons ?_ | refine kp_arr ?_ | refine kp_app ?_ | refine t_p ?_ | refine t_br (fun hc => ?_) fun hc => ?_)
     | ((with_reducible first | refine t_kE ?_ | refine t_kD ?_ | refine t_gS ?_ | refine t_kL ?_ | refine t_kLF ?_ ?_ | refine t_region fun K => ?_ | refine t_cond fun A B => ?_ | refine t_draw (by kernel_rfl) fun K => ?_); simp only [go_sem, geff, con65_f, con65_c, slK_sl, hS, szV_def, e1])
     | ((with_reducible refine kp_skip ?_ ?_); rfl) | simp only [thenQ, blockQ, scopeQ, Nat.reduceEqDiff, reduceIte] | (with_reducible first | refine And.intro ?_ ?_ | intro vr))
    all_goals try (intros; (try simp only [Bool.and_eq_true, Bool.or_eq_true, Bool.not_eq_true', decide_eq_true_eq, decide_eq_false_iff_not, beq_iff_eq, bne_iff_ne, ne_eq, inI64, List.length_append] at *) <;> omega)
    refine end_ret rfl ?_
    simp only [fin, go_sem]
    exact ixE_le
noncomputable def con95 : PCon Try.prog where
  f := 95
  c := fun
    | [xd, .lit (.int .i64 o)] => match slK .i64 xd with | some d => some (d.length ≤ 1000000, ixV (idxS d o)) | _ => none
    | _ => none
  ok := by
    intro args p r hc hp
    split at hc
    · split at hc
      · rename_i hd
        cases hc
        exact PC.weak ((fun hp : _ => idx_pc hp) hp) ⟨slK_le hd, LeA.refl _, trivial⟩
      · cases hc
    · cases hc
  fk := fk95
theorem con95_f : con95.f = 95 := rfl
theorem con95_c {xd : AV} {o : Int} : con95.c [xd, .lit (.int .i64 o)] = match slK .i64 xd with | some d => some (d.length ≤ 1000000, ixV (idxS d o)) | _ => none := rfl
noncomputable def E43 : Env := envOf (P := Try.prog) zer (fun _ => false) (fun _ => false) [con30] []
theorem E43_ok : EnvOk Try.prog E43 := envOk zer_ok
set_option maxRecDepth 20000 in
set_option maxHeartbeats 4000000 in
theorem ridx_pc {d : List Int} {o : Int} (hl : d.length ≤ 1000000) : PC Try.prog 71 [.sl false 1 (ints .i64 d), .lit (.int .i64 o)] (ixV (idxS d o)) := by
  unfold idxS
  generalize hS : sizeS d = s
  obtain ⟨n, er⟩ := s
  simp only
  by_cases e0 : er = 0
  · subst e0
    rw [if_neg (by simp)]
    by_cases o1 : o < 0
    · have o1' : decide (o < 0) = true := decide_eq_true o1
      rw [if_pos (.inl o1)]
      refine pc_of E43_ok mixed (fun _ => [0, 1, 4, 5, 6, 7, 8, 9, 16, 24, 32]) Try.func71 rfl (by kernel_rfl) (Nat.le_of_ble_eq_true rfl) ?_
      simp only [initF_cons, initF_nil, Nat.reduceAdd]
      refine t_name fun KF => ?_
      unfold E43
      repeat' (first
       | (with_reducible first | refine t_seq fun K => ?_ | refine t_block ?_ | refine t_scope ?_ | refine t_label ?_ | refine t_skip ?_ | refine t_exit ?_ | refine t_ret ?_ | refine t_k ?_ | refine t_gF ?_ | exact kp_nil | exact Kp.refl _ | exact kp_to | refine kp_cons ?_ | refine kp_arr ?_ | refine kp_app ?_ | refine t_p ?_ | refine t_br (fun hc => ?_) fun hc => ?_)
       | ((with_reducible first | refine t_kE ?_ | refine t_kD ?_ | refine t_gS ?_ | refine t_kL ?_ | refine t_kLF ?_ ?_ | refine t_region fun K => ?_ | refine t_cond fun A B => ?_ | refine t_draw (by kernel_rfl) fun K => ?_); simp only [go_sem, geff, con30_f, con30_c, slK_sl, hS, szV_def, o1'])
       | ((with_reducible refine kp_skip ?_ ?_); rfl) | simp only [thenQ, blockQ, scopeQ, Nat.reduceEqDiff, reduceIte] | (with_reducible first | refine And.intro ?_ ?_ | intro vr))
      all_goals try (intros; (try simp only [Bool.and_eq_true, Bool.or_eq_true, Bool.not_eq_true', decide_eq_true_eq, decide_eq_false_iff_not, beq_iff_eq, bne_iff_ne, ne_eq, inI64, List.length_append] at *) <;> omega)
      refine end_ret rfl ?_
      simp only [fin, go_sem]
      exact ixE_le
    · have o1' : decide (o < 0) = false := decide_eq_false o1
      by_cases o2 : o ≥ n
      · have o2' : decide (o ≥ n) = true := decide_eq_true o2
        rw [if_pos (.inr o2)]
        refine pc_of E43_ok mixed (fun _ => [0, 1, 4, 5, 6, 7, 8, 9, 16, 24, 32]) Try.func71 rfl (by kernel_rfl) (Nat.le_of_ble_eq_true rfl) ?_
        simp only [initF_cons, initF_nil, Nat.reduceAdd]
        refine t_name fun KF => ?_
        unfold E43
        repeat' (first
         | (with_reducible first | refine t_seq fun K => ?_ | refine t_block ?_ | refine t_scope ?_ | refine t_label ?_ | refine t_skip ?_ | refine t_exit ?_ | refine t_ret ?_ | refine t_k ?_ | refine t_gF ?_ | exact kp_nil | exact Kp.refl _ | exact kp_to | refine kp_cons ?_ | refine kp_arr ?_ | refine kp_app ?_ | refine t_p ?_ | refine t_br (fun hc => ?_) fun hc => ?_)
         | ((with_reducible first | refine t_kE ?_ | refine t_kD ?_ | refine t_gS ?_ | refine t_kL ?_ | refine t_kLF ?_ ?_ | refine t_region fun K => ?_ | refine t_cond fun A B => ?_ | refine t_draw (by kernel_rfl) fun K => ?_); simp only [go_sem, geff, con30_f, con30_c, slK_sl, hS, szV_def, o1', o2'])
         | ((with_reducible refine kp_skip ?_ ?_); rfl) | simp only [thenQ, blockQ, scopeQ, Nat.reduceEqDiff, reduceIte] | (with_reducible first | refine And.intro ?_ ?_ | intro vr))
        all_goals try (intros; (try simp only [Bool.and_eq_true, Bool.or_eq_true, Bool.not_eq_true', decide_eq_true_eq, decide_eq_false_iff_not, beq_iff_eq, bne_iff_ne, ne_eq, inI64, List.length_append] at *) <;> omega)
        refine end_ret rfl ?_
        simp only [fin, go_sem]
        exact ixE_le
      · have o2' : decide (o ≥ n) = false := decide_eq_false o2
        rw [if_neg (by omega)]
        have hn := (sizeS_ok hS).2.2.2
        have hp := dims_pos hS (by omega) (show o < n by omega)
        generalize hG : (digR d.reverse o).reverse = G
        refine pc_of E43_ok mixed (fun _ => [0, 1, 4, 5, 6, 7, 8, 9, 16, 24, 32]) Try.func71 rfl (by kernel_rfl) (Nat.le_of_ble_eq_true rfl) ?_
        simp only [initF_cons, initF_nil, Nat.reduceAdd]
        refine t_name fun KF => ?_
        unfold E43
        repeat' (first
         | (with_reducible first | refine t_seq fun K => ?_ | refine t_block ?_ | refine t_scope ?_ | refine t_label ?_ | refine t_skip ?_ | refine t_exit ?_ | refine t_ret ?_ | refine t_k ?_ | refine t_gF ?_ | exact kp_nil | exact Kp.refl _ | exact kp_to | refine kp_cons ?_ | refine kp_arr ?_ | refine kp_app ?_ | refine t_p ?_ | refine t_br (fun hc => ?_) fun hc => ?_)
         | ((with_reducible first | refine t_kE ?_ | refine t_kD ?_ | refine t_gS ?_ | refine t_kL ?_ | refine t_kLF ?_ ?_ | refine t_region fun K => ?_ | refine t_cond fun A B => ?_ | refine t_draw (by kernel_rfl) fun K => ?_); simp only [go_sem, geff, con30_f, con30_c, slK_sl, hS, szV_def, o1', o2', rep_ints, Int.toNat_natCast])
         | ((with_reducible refine kp_skip ?_ ?_); rfl) | simp only [thenQ, blockQ, scopeQ, Nat.reduceEqDiff, reduceIte] | (with_reducible first | refine And.intro ?_ ?_ | intro vr))
        all_goals try (intros; (try simp only [Bool.and_eq_true, Bool.or_eq_true, Bool.not_eq_true', decide_eq_true_eq, decide_eq_false_iff_not, beq_iff_eq, bne_iff_ne, ne_eq, inI64, List.length_append] at *) <;> omega)
        refine t_loop (ι := Li d G) (fun i => ⟨upd (upd (upd (upd topF 8 (.arr 0 0)) 1 (.lit (.int .i64 i.o))) 0 (.sl false 1 (ints .i64 d))) 9 (.lit (.int .i64 ((d.length : Int) - 1 - i.i))), [.arr 3 1 (ints .i64 (List.replicate (d.length - i.i) 0 ++ i.T)) 0 false]⟩) (fun i => d.length - i.i) ⟨0, o, [], by omega, by omega, rfl, by simpa using hG⟩ ?_ ?_
        · skip
          (refine Le.frameS ?gs2 ?_; rotate_left; repeat' (first | exact leF_top _ | (with_reducible refine leF_sl ?_ ?_) | (refine leF_upd (LeR.of_eq ?_) ?_))) <;> (try (simp only [go_sem]; try rfl))
          all_goals (first | omega | simp)
        · rintro ⟨i, v, T, hi, hv, hT, hF⟩ K0
          rcases Nat.lt_or_ge i d.length with hc | hc
          · have g1 : decide ((d.length : Int) - 1 - (i : Int) ≥ 0) = true := decide_eq_true (by omega)
            have hi1 : ((d.length : Int) - 1 - (i : Int)).toNat = d.length - 1 - i := by omega
            have g2 := ints_getD .i64 d (d.length - 1 - i) (by omega)
            have hq := hp _ (getD_mem 0 (show d.length - 1 - i < d.length by omega))
            have hrv : d.reverse.drop i = d.getD (d.length - 1 - i) 0 :: d.reverse.drop (i + 1) := by
              rw [List.drop_eq_getElem_cons (by simpa using hc), List.getElem_reverse, List.getD_eq_getElem?_getD, List.getElem?_eq_getElem (by omega)]
              rfl
            rw [hrv, digR, List.reverse_cons, List.append_assoc] at hF
            generalize d.getD (d.length - 1 - i) 0 = q at g2 hq hF
            have z1 : (q == 0) = false := by rw [beq_eq_false_iff_ne]; omega
            have ht := tdm hv.1 hq
            have hst : (List.replicate (d.length - i) 0 ++ T).set (d.length - 1 - i) (v.tmod q) = List.replicate (d.length - (i + 1)) 0 ++ v.tmod q :: T := by
              have := set_rep (d.length - 1 - i) T (v.tmod q)
              rwa [show d.length - 1 - i + 1 = d.length - i by omega, show List.replicate (d.length - 1 - i) (0 : Int) = List.replicate (d.length - (i + 1)) 0 by congr 1; omega] at this
            have hln : (List.replicate (d.length - i) (0 : Int) ++ T).length = d.length := by simp [hT]; omega
            repeat' (first
             | (with_reducible first | refine t_seq fun K => ?_ | refine t_block ?_ | refine t_scope ?_ | refine t_label ?_ | refine t_skip ?_ | refine t_exit ?_ | refine t_ret ?_ | refine t_k ?_ | refine t_gF ?_ | exact kp_nil | exact Kp.refl _ | exact kp_to | refine kp_cons ?_ | refine kp_arr ?_ | refine kp_app ?_ | refine t_p ?_ | refine t_br (fun hc => ?_) fun hc => ?_)
             | ((with_reducible first | refine t_kE ?_ | refine t_kD ?_ | refine t_gS ?_ | refine t_kL ?_ | refine t_kLF ?_ ?_ | refine t_region fun K => ?_ | refine t_cond fun A B => ?_ | refine t_draw (by kernel_rfl) fun K => ?_); simp only [go_sem, geff, con30_f, g1, hi1, g2, z1, ints_set', hst, hln, ints_length, Int.toNat_natCast])
             | ((with_reducible refine kp_skip ?_ ?_); rfl) | simp only [thenQ, blockQ, scopeQ, Nat.reduceEqDiff, reduceIte] | (with_reducible first | refine And.intro ?_ ?_ | intro vr))
            all_goals try (intros; (try simp only [Bool.and_eq_true, Bool.or_eq_true, Bool.not_eq_true', decide_eq_true_eq, decide_eq_false_iff_not, beq_iff_eq, bne_iff_ne, ne_eq, inI64, List.length_append] at *) <;> omega)
            refine ⟨⟨i + 1, v.tdiv q, v.tmod q :: T, by omega, by omega, by simp [hT], hF⟩, by simp only; omega, ?_⟩
            (refine Le.frame ?_; repeat' (first | exact leF_top _ | (with_reducible refine leF_sl ?_ ?_) | (refine leF_upd (LeR.of_eq ?_) ?_))) <;> (try (simp only [go_sem]; try rfl))
            omega
          · have g1 : decide ((d.length : Int) - 1 - (i : Int) ≥ 0) = false := decide_eq_false (by omega)
            have : i = d.length := by omega
            subst this
            rw [List.drop_eq_nil_of_le (by simp), digR] at hF
            simp only [List.reverse_nil, List.nil_append] at hF
            subst hF
            repeat' (first
             | (with_reducible first | refine t_seq fun K => ?_ | refine t_block ?_ | refine t_scope ?_ | refine t_label ?_ | refine t_skip ?_ | refine t_exit ?_ | refine t_ret ?_ | refine t_k ?_ | refine t_gF ?_ | exact kp_nil | exact Kp.refl _ | exact kp_to | refine kp_cons ?_ | refine kp_arr ?_ | refine kp_app ?_ | refine t_p ?_ | refine t_br (fun hc => ?_) fun hc => ?_)
             | ((with_reducible first | refine t_kE ?_ | refine t_kD ?_ | refine t_gS ?_ | refine t_kL ?_ | refine t_kLF ?_ ?_ | refine t_region fun K => ?_ | refine t_cond fun A B => ?_ | refine t_draw (by kernel_rfl) fun K => ?_); simp only [go_sem, geff, con30_f, g1, Nat.sub_self, List.replicate_zero])
             | ((with_reducible refine kp_skip ?_ ?_); rfl) | simp only [thenQ, blockQ, scopeQ, Nat.reduceEqDiff, reduceIte] | (with_reducible first | refine And.intro ?_ ?_ | intro vr))
            refine end_ret rfl ?_
            simp only [fin, go_sem]
            exact LeA.refl _
  · have e1 : (er != 0) = true := bne_iff_ne.2 e0
    rw [if_pos e0]
    refine pc_of E43_ok mixed (fun _ => [0, 1, 4, 5, 6, 7, 8, 9, 16, 24, 32]) Try.func71 rfl (by kernel_rfl) (Nat.le_of_ble_eq_true rfl) ?_
    simp only [initF_cons, initF_nil, Nat.reduceAdd]
    refine t_name fun KF => ?_
    unfold E43
    repeat' (first
     | (with_reducible first | refine t_seq fun K => ?_ | refine t_block ?_ | refine t_scope ?_ | refine t_label ?_ | refine t_skip ?_ | refine t_exit ?_ | refine t_ret ?_ | refine t_k ?_ | refine t_gF ?_ | exact kp_nil | exact Kp.refl _ | exact kp_to | refine kp_cons ?_ | refine kp_arr ?_ | refine kp_app ?_ | refine t_p ?_ | refine t_br (fun hc => ?_) fun hc => ?_)
     | ((with_reducible first | refine t_kE ?_ | refine t_kD ?_ | refine t_gS ?_ | refine t_kL ?_ | refine t_kLF ?_ ?_ | refine t_region fun K => ?_ | refine t_cond fun A B => ?_ | refine t_draw (by kernel_rfl) fun K => ?_); simp only [go_sem, geff, con30_f, con30_c, slK_sl, hS, szV_def, e1])
     | ((with_reducible refine kp_skip ?_ ?_); rfl) | simp only [thenQ, blockQ, scopeQ, Nat.reduceEqDiff, reduceIte] | (with_reducible first | refine And.intro ?_ ?_ | intro vr))
    all_goals try (intros; (try simp only [Bool.and_eq_true, Bool.or_eq_true, Bool.not_eq_true', decide_eq_true_eq, decide_eq_false_iff_not, beq_iff_eq, bne_iff_ne, ne_eq, inI64, List.length_append] at *) <;> omega)
    refine end_ret rfl ?_
    simp only [fin, go_sem]
    exact ixE_le
noncomputable def con71 : PCon Try.prog where
  f := 71
  c := fun
    | [xd, .lit (.int .i64 o)] => match slK .i64 xd with | some d => some (d.length ≤ 1000000, ixV (idxS d o)) | _ => none
    | _ => none
  ok := by
    intro args p r hc hp
    split at hc
    · split at hc
      · rename_i hd
        cases hc
        exact PC.weak ((fun hp : _ => ridx_pc hp) hp) ⟨slK_le hd, LeA.refl _, trivial⟩
      · cases hc
    · cases hc
  fk := fk71
theorem con71_f : con71.f = 71 := rfl
theorem con71_c {xd : AV} {o : Int} : con71.c [xd, .lit (.int .i64 o)] = match slK .i64 xd with | some d => some (d.length ≤ 1000000, ixV (idxS d o)) | _ => none := rfl
end Go.Proofs.Ytjlcbojpiieafaa

/- Indices of places: plain facts. -/
namespace Go.Proofs.Ytjlcbojpiieafaa
open Go Go.Fw

def digF : List Int → Int → List Int
  | [], _ => []
  | _ :: t, o => o / prI t :: digF t (o % prI t)
theorem prI_rev : ∀ l : List Int, prI l.reverse = prI l
  | [] => rfl
  | d :: t => by rw [List.reverse_cons, prI_app, prI_rev t, prI, prI, prI, Int.mul_one, Int.mul_comm]
theorem digR_app : ∀ (l : List Int) (d o : Int), (∀ x ∈ l, 1 ≤ x) → 0 ≤ o → digR (l ++ [d]) o = digR l o ++ [(o / prI l).tmod d]
  | [], d, o, _, h => by simp [digR, prI]
  | x :: l, d, o, hl, h => by
    have hx := hl x (by simp)
    have h1 : o.tdiv x = o / x := Int.tdiv_eq_ediv_of_nonneg h
    have h2 : 0 ≤ o / x := Int.ediv_nonneg h (by omega)
    rw [List.cons_append, digR, digR, List.cons_append, h1, digR_app l d _ (fun y hy => hl y (by simp [hy])) h2, prI, Int.ediv_ediv_of_nonneg (by omega)]
theorem digR_mod : ∀ (l : List Int) (o : Int), (∀ x ∈ l, 1 ≤ x) → 0 ≤ o → digR l (o % prI l) = digR l o
  | [], _, _, _ => rfl
  | x :: l, o, hl, h => by
    have hx := hl x (by simp)
    have ht : ∀ y ∈ l, 1 ≤ y := fun y hy => hl y (by simp [hy])
    have hp := prI_pos ht
    have h0 : 0 ≤ o % (x * prI l) := Int.emod_nonneg _ (by have := Int.mul_pos (show 0 < x by omega) (show 0 < prI l by omega); omega)
    rw [prI, digR, digR, Int.tmod_eq_emod_of_nonneg h0, Int.tmod_eq_emod_of_nonneg h, Int.tdiv_eq_ediv_of_nonneg h0, Int.tdiv_eq_ediv_of_nonneg h, Int.emod_emod_of_dvd o ⟨prI l, rfl⟩]
    have e : o % (x * prI l) / x = (o / x) % prI l := by
      have h1 := Int.emod_add_mul_ediv o (x * prI l)
      have h2 := Int.emod_add_mul_ediv (o / x) (prI l)
      rw [Int.ediv_ediv_of_nonneg (by omega)] at h2
      have h3 : o = o % (x * prI l) + x * (prI l * (o / (x * prI l))) := by rw [← Int.mul_assoc]; omega
      have h4 : o / x = o % (x * prI l) / x + prI l * (o / (x * prI l)) := by
        conv => lhs; rw [h3]
        rw [Int.add_mul_ediv_left _ _ (by omega)]
      omega
    rw [e, digR_mod l _ ht (Int.ediv_nonneg h (by omega))]
theorem dig_eq : ∀ (d : List Int) (o : Int), (∀ x ∈ d, 1 ≤ x) → 0 ≤ o → o < prI d → (digR d.reverse o).reverse = digF d o
  | [], _, _, _, _ => rfl
  | d :: t, o, hl, h, hb => by
    have hd := hl d (by simp)
    have ht : ∀ y ∈ t, 1 ≤ y := fun y hy => hl y (by simp [hy])
    have hr : ∀ y ∈ t.reverse, 1 ≤ y := fun y hy => ht y (List.mem_reverse.1 hy)
    have hp := prI_pos ht
    have h1 : 0 ≤ o / prI t := Int.ediv_nonneg h (by omega)
    have h2 : o / prI t < d := Int.ediv_lt_of_lt_mul (by omega) hb
    rw [List.reverse_cons, digR_app _ _ _ hr h, List.reverse_append, prI_rev]
    have e : digR t.reverse o = digR t.reverse (o % prI t) := by
      have := digR_mod t.reverse o hr h
      rw [prI_rev] at this; exact this.symm
    rw [e, digF, List.reverse_cons, List.reverse_nil, List.nil_append, List.singleton_append, Int.tmod_eq_emod_of_nonneg h1, Int.emod_eq_of_lt h1 h2,
      dig_eq t _ ht (Int.emod_nonneg _ (by omega)) (Int.emod_lt_of_pos _ (by omega))]
theorem digF_len : ∀ (d : List Int) (o : Int), (digF d o).length = d.length
  | [], _ => rfl
  | _ :: t, o => by simp [digF, digF_len t]
theorem atS_dig : ∀ (d : List Int) (o k : Int), (∀ x ∈ d, 1 ≤ x) → 0 ≤ o → o < prI d → atS d (digF d o) k = some (k * prI d + o)
  | [], o, k, _, h, hb => by simp only [prI] at hb; simp only [digF, atS, prI]; congr 1; omega
  | d :: t, o, k, hl, h, hb => by
    have hd := hl d (by simp)
    have ht : ∀ y ∈ t, 1 ≤ y := fun y hy => hl y (by simp [hy])
    have hp := prI_pos ht
    have h1 : 0 ≤ o / prI t := Int.ediv_nonneg h (by omega)
    have h2 : o / prI t < d := Int.ediv_lt_of_lt_mul (by omega) hb
    rw [digF, atS, if_neg (by omega), atS_dig t _ _ ht (Int.emod_nonneg _ (by omega)) (Int.emod_lt_of_pos _ (by omega))]
    congr 1
    have e := Int.emod_add_mul_ediv o (prI t)
    rw [Int.add_mul, prI, ← Int.mul_assoc, Int.mul_comm (o / prI t)]
    omega
theorem digF_inj {d : List Int} {o p : Int} (hl : ∀ x ∈ d, 1 ≤ x) (h : 0 ≤ o) (hb : o < prI d) (h' : 0 ≤ p) (hb' : p < prI d) (e : digF d o = digF d p) : o = p := by
  have h1 := atS_dig d o 0 hl h hb
  have h2 := atS_dig d p 0 hl h' hb'
  rw [e, h2, Option.some.injEq] at h1
  omega
/-- Are two lists of numbers in the order that a boolean says (equal: another one)? -/
def ordL (b c : Bool) : List Int → List Int → Bool
  | x :: xs, y :: ys => if x = y then ordL b c xs ys else decide (x < y) == b
  | _, _ => c
theorem ordL_dig : ∀ (d : List Int) (o p : Int), (∀ x ∈ d, 1 ≤ x) → 0 ≤ o → o < prI d → 0 ≤ p → p < prI d → ordL (decide (o < p)) (o == p) (digF d o) (digF d p) = true
  | [], o, p, _, h, hb, h', hb' => by simp only [prI] at hb hb'; simp only [digF, ordL, beq_iff_eq]; omega
  | d :: t, o, p, hl, h, hb, h', hb' => by
    have hd := hl d (by simp)
    have ht : ∀ y ∈ t, 1 ≤ y := fun y hy => hl y (by simp [hy])
    have hp := prI_pos ht
    have e1 := Int.emod_add_mul_ediv o (prI t)
    have e2 := Int.emod_add_mul_ediv p (prI t)
    have r1 := Int.emod_nonneg o (show prI t ≠ 0 by omega)
    have r2 := Int.emod_nonneg p (show prI t ≠ 0 by omega)
    have s1 := Int.emod_lt_of_pos o (show 0 < prI t by omega)
    have s2 := Int.emod_lt_of_pos p (show 0 < prI t by omega)
    rw [digF, digF, ordL]
    split
    · rename_i e
      have := ordL_dig t _ _ ht r1 s1 r2 s2
      rw [e] at e1
      have a1 : decide (o % prI t < p % prI t) = decide (o < p) := by
        have : (o % prI t < p % prI t) ↔ (o < p) := by omega
        simp [this]
      have a2 : (o % prI t == p % prI t) = (o == p) := by
        by_cases h : o = p
        · rw [h]; simp
        · rw [beq_eq_false_iff_ne.2 h, beq_eq_false_iff_ne]; omega
      rw [a1, a2] at this
      exact this
    · rename_i e
      rw [beq_iff_eq]
      generalize hx : o / prI t = x at e e1
      generalize hy : p / prI t = y at e e2
      generalize prI t = P at *
      have m1 : x < y → (x + 1) * P ≤ y * P := fun h => Int.mul_le_mul_of_nonneg_right (by omega) (by omega)
      have m2 : y < x → (y + 1) * P ≤ x * P := fun h => Int.mul_le_mul_of_nonneg_right (by omega) (by omega)
      rw [Int.add_mul, Int.one_mul] at m1 m2
      rw [Int.mul_comm P] at e1 e2
      have : (x < y) ↔ (o < p) := by omega
      simp [this]
theorem idx_ok {d : List Int} {n p : Int} (hS : sizeS d = (n, 0)) (h : 0 ≤ p) (hb : p < n) : idxS d p = (digF d p, 0) ∧ (∀ x ∈ d, 1 ≤ x) ∧ n = prI d := by
  have hn := (sizeS_ok hS).2.2.1
  have hp := dims_pos hS h hb
  refine ⟨?_, hp, hn⟩
  unfold idxS
  rw [hS]
  simp only
  rw [if_neg (by simp), if_neg (by omega), dig_eq d p hp h (by omega)]
theorem off_dig {d : List Int} {n p : Int} (hS : sizeS d = (n, 0)) (h : 0 ≤ p) (hb : p < n) : offS d (digF d p) = (p, 0) := by
  obtain ⟨_, hp, hn⟩ := idx_ok hS h hb
  unfold offS
  rw [hS]
  simp only
  rw [if_neg (by simp), if_neg (by rw [digF_len]; simp), atS_dig d p 0 hp h (by omega)]
  simp
end Go.Proofs.Ytjlcbojpiieafaa

/- Elements of index and update; elements that are only moved. -/
namespace Go.Proofs.Ytjlcbojpiieafaa
open Go Go.Fw
set_option maxRecDepth 20000

theorem cloneI_ec {σ : List AObj} {l : List Int} {k : AV → List AObj → Prop} (hl : l.length ≤ 1000000) (hk : k (.arr σ.length 0) (σ ++ [.arr 3 1 (ints .i64 l) 0 false])) : EC Try.prog 61 [.sl false 1 (ints .i64 l)] σ k := by
  refine EC.nilArr 3 1 ?_
  refine ec_ofR F1_ok mixed (kp61) (rs := [.tmp 2]) Try.func61 rfl (by kernel_rfl) (by kernel_rfl) (Nat.le_of_ble_eq_true rfl) ?_
  simp only [initF_cons, initF_nil, Nat.reduceAdd]
  refine t_name fun KF => ?_
  unfold F1
  repeat' (first
   | (with_reducible first | refine t_seq fun K => ?_ | refine t_block ?_ | refine t_scope ?_ | refine t_label ?_ | refine t_skip ?_ | refine t_exit ?_ | refine t_ret ?_ | refine t_k ?_ | refine t_gF ?_ | exact kp_nil | exact Kp.refl _ | exact kp_to | refine kp_cons ?_ | refine kp_arr ?_ | refine kp_app ?_ | refine t_p ?_ | refine t_br (fun hc => ?_) fun hc => ?_)
   | ((with_reducible first | refine t_kE (t_openE ?_) | refine t_kD (t_openD ?_) | refine t_kE ?_ | refine t_kD ?_ | refine t_gS ?_ | refine t_kL ?_ | refine t_kLF ?_ ?_ | refine t_region fun K => ?_ | refine t_cond fun A B => ?_ | refine t_draw (by kernel_rfl) fun K => ?_); (try (first | refine t_hideE fun KL => ?_ | refine t_hideD fun KL => ?_)); simp only [go_sem, geff, kp61])
   | ((with_reducible refine kp_skip ?_ ?_); rfl) | simp only [thenQ, blockQ, scopeQ, Nat.reduceEqDiff, reduceIte] | (with_reducible first | refine And.intro ?_ ?_ | intro vr))
  all_goals try (first | (with_reducible assumption) | (intros; (try simp only [Bool.and_eq_true, Bool.or_eq_true, Bool.or_eq_false_iff, Bool.not_eq_true', Bool.not_eq_false', decide_eq_true_eq, decide_eq_false_iff_not, beq_iff_eq, beq_eq_false_iff_ne, bne_iff_ne, bne_eq_false_iff_eq, ne_eq, inI64, List.length_append] at *) <;> omega))
  all_goals ((first | refine end_retE ?_ | refine end_normE ?_); simp only [fin, go_sem])
  · exact .inr (by simp_all [ints])
  · exact .inl hk
noncomputable def ecn61 : ECon Try.prog where
  f := 61
  c := fun args σ k => match args with
    | [xl] => match slK .i64 xl with | some l => l.length ≤ 1000000 ∧ k (.arr σ.length 0) (σ ++ [.arr 3 1 (ints .i64 l) 0 false]) | _ => False
    | _ => False
  ok := by
    intro args σ k h
    split at h
    · split at h
      · rename_i hl
        exact EC.weak (cloneI_ec h.1 h.2) (LeRL.cons (slK_leR hl) (LeRL.nil))
      · exact h.elim
    · exact h.elim
  fk := fk61
theorem ecn61_f : ecn61.f = 61 := rfl
theorem ecn61_c {xl : AV} {σ : List AObj} {k : AV → List AObj → Prop} : ecn61.c [xl] σ k = match slK .i64 xl with | some l => l.length ≤ 1000000 ∧ k (.arr σ.length 0) (σ ++ [.arr 3 1 (ints .i64 l) 0 false]) | _ => False := rfl
def ibV (r : List Int × Bool) : AV := .tup [.sl false 1 (ints .i64 r.1), .lit (.bool r.2)]
theorem ib_of {x : AV} {n : Bool} {l : List Int} {r : List Int × Bool} (h : slK .i64 x = some l) (e : r = (l, n)) : LeA (.tup [x, .lit (.bool n)]) (ibV r) := by
  subst e; exact LeA.tup ⟨slK_le h, LeA.refl _, trivial⟩
theorem ibV_def {r : List Int × Bool} : ibV r = .tup [.sl false 1 (ints .i64 r.1), .lit (.bool r.2)] := rfl
def outS (a b : Arr) : Bool := decide (b.x.getD 0 0 < 0) || decide (b.x.getD 0 0 ≥ (a.x.length : Int))
def checkedS (op : ByteArray) (cs : List Arr) : List Int × Bool :=
  let a := cs.getD 0 nilA
  let b := cs.getD 1 nilA
  if (eqS op n_index && outS a b) = true then ([0], true)
  else if eqS op n_index = true then ([a.x.getD (b.x.getD 0 0).toNat 0], false)
  else if outS a b = true then (a.x, true)
  else (a.x.set (b.x.getD 0 0).toNat ((cs.getD 2 nilA).x.getD 0 0), false)
theorem arrV_def' {a : Arr} : arrV a = .agg [.lit (.string a.e), .sl false 1 (ints .i64 a.d), .sl false 1 (ints .i64 a.x)] := rfl
noncomputable def I1 : Env := envJ (P := Try.prog) jk2 zer (fun _ => false) (fun _ => false) [] [ecn61]
theorem I1_ok : EnvOk Try.prog I1 := envJOk zer_ok
set_option maxHeartbeats 4000000 in
theorem checked_pc {op : ByteArray} {cs : List Arr} (h2 : 2 ≤ cs.length) (h3 : eqS op n_index = false → 3 ≤ cs.length ∧ 0 < (cs.getD 2 nilA).x.length) (hb : 0 < (cs.getD 1 nilA).x.length) (ha : (cs.getD 0 nilA).x.length ≤ 1000000) :
    PC Try.prog 73 [.lit (.string op), .sl false 3 (arrs cs)] (ibV (checkedS op cs)) := by
  generalize hR : checkedS op cs = R
  unfold checkedS at hR
  simp only [show outS (cs.getD 0 nilA) (cs.getD 1 nilA) = (decide ((cs.getD 1 nilA).x.getD 0 0 < 0) || decide ((cs.getD 1 nilA).x.getD 0 0 ≥ ((cs.getD 0 nilA).x.length : Int))) from rfl] at hR
  cases hi : eqS op n_index with
  | true =>
    have hi' : eqS op ⟨#[105, 110, 100, 101, 120]⟩ = true := hi
    refine pc_ofR I1_ok mixed (kp73) (rs := [.tmp 4, .tmp 5]) Try.func73 rfl (by kernel_rfl) (by kernel_rfl) (Nat.le_of_ble_eq_true rfl) ?_
    simp only [initF_cons, initF_nil, Nat.reduceAdd]
    refine t_name fun KF => ?_
    unfold I1
    repeat' (first
     | (with_reducible first | refine t_seq fun K => ?_ | refine t_block ?_ | refine t_scope ?_ | refine t_label ?_ | refine t_skip ?_ | refine t_exit ?_ | refine t_ret ?_ | refine t_k ?_ | refine t_gF ?_ | exact kp_nil | exact Kp.refl _ | exact kp_to | refine kp_cons ?_ | refine kp_arr ?_ | refine kp_app ?_ | refine t_p ?_ | refine t_br (fun hc => ?_) fun hc => ?_)
     | ((with_reducible first | refine t_kE (t_openE ?_) | refine t_kD (t_openD ?_) | refine t_kE ?_ | refine t_kD ?_ | refine t_gS ?_ | refine t_kL ?_ | refine t_kLF ?_ ?_ | refine t_region fun K => ?_ | refine t_cond fun A B => ?_ | refine t_draw (by kernel_rfl) fun K => ?_); (try (first | refine t_hideE fun KL => ?_ | refine t_hideD fun KL => ?_)); simp only [go_sem, geff, kp73, ecn61_f, ecn61_c, arrs_length, arrV_def', slK_sl, hi'])
     | ((with_reducible refine kp_skip ?_ ?_); rfl) | simp only [thenQ, blockQ, scopeQ, Nat.reduceEqDiff, reduceIte] | (with_reducible first | refine And.intro ?_ ?_ | intro vr))
    all_goals try (first | (with_reducible assumption) | (intros; (try simp only [Bool.and_eq_true, Bool.or_eq_true, Bool.or_eq_false_iff, Bool.not_eq_true', Bool.not_eq_false', decide_eq_true_eq, decide_eq_false_iff_not, beq_iff_eq, beq_eq_false_iff_ne, bne_iff_ne, bne_eq_false_iff_eq, ne_eq, inI64, List.length_append] at *) <;> omega))
    all_goals ((first | refine end_retE ?_ | refine end_normE ?_); simp only [fin, go_sem])
    · rw [hi, if_pos (by rw [hc]; rfl)] at hR
      exact ib_of (by first | exact slK_sl | rfl) hR.symm
    · rw [hi, if_neg (by rw [hc]; decide), if_pos rfl] at hR
      exact ib_of (by first | exact slK_sl | rfl) hR.symm
  | false =>
    have hi' : eqS op ⟨#[105, 110, 100, 101, 120]⟩ = false := hi
    obtain ⟨h3, hc⟩ := h3 hi
    refine pc_ofR I1_ok mixed (kp73) (rs := [.tmp 4, .tmp 5]) Try.func73 rfl (by kernel_rfl) (by kernel_rfl) (Nat.le_of_ble_eq_true rfl) ?_
    simp only [initF_cons, initF_nil, Nat.reduceAdd]
    refine t_name fun KF => ?_
    unfold I1
    repeat' (first
     | (with_reducible first | refine t_seq fun K => ?_ | refine t_block ?_ | refine t_scope ?_ | refine t_label ?_ | refine t_skip ?_ | refine t_exit ?_ | refine t_ret ?_ | refine t_k ?_ | refine t_gF ?_ | exact kp_nil | exact Kp.refl _ | exact kp_to | refine kp_cons ?_ | refine kp_arr ?_ | refine kp_app ?_ | refine t_p ?_ | refine t_br (fun hc => ?_) fun hc => ?_)
     | ((with_reducible first | refine t_kE (t_openE ?_) | refine t_kD (t_openD ?_) | refine t_kE ?_ | refine t_kD ?_ | refine t_gS ?_ | refine t_kL ?_ | refine t_kLF ?_ ?_ | refine t_region fun K => ?_ | refine t_cond fun A B => ?_ | refine t_draw (by kernel_rfl) fun K => ?_); (try (first | refine t_hideE fun KL => ?_ | refine t_hideD fun KL => ?_)); simp only [go_sem, geff, kp73, ecn61_f, ecn61_c, arrs_length, arrV_def', slK_sl, hi'])
     | ((with_reducible refine kp_skip ?_ ?_); rfl) | simp only [thenQ, blockQ, scopeQ, Nat.reduceEqDiff, reduceIte] | (with_reducible first | refine And.intro ?_ ?_ | intro vr))
    all_goals try (first | (with_reducible assumption) | (intros; (try simp only [Bool.and_eq_true, Bool.or_eq_true, Bool.or_eq_false_iff, Bool.not_eq_true', Bool.not_eq_false', decide_eq_true_eq, decide_eq_false_iff_not, beq_iff_eq, beq_eq_false_iff_ne, bne_iff_ne, bne_eq_false_iff_eq, ne_eq, inI64, List.length_append] at *) <;> omega))
    all_goals ((first | refine end_retE ?_ | refine end_normE ?_); simp only [fin, go_sem])
    · rw [hi, if_neg (by simp), if_neg (by simp), if_pos hc] at hR
      exact ib_of (by first | exact slK_sl | rfl) hR.symm
    · rw [hi, if_neg (by simp), if_neg (by simp), if_neg (by rw [hc]; decide)] at hR
      exact ib_of (by first | exact slK_sl | rfl) hR.symm
end Go.Proofs.Ytjlcbojpiieafaa

/- Elements that are only moved: the function that finds one. -/
namespace Go.Proofs.Ytjlcbojpiieafaa
open Go Go.Fw
set_option maxRecDepth 20000

def isF (g : Nat) : Bool := [104, 107, 109, 111, 114, 116, 118, 120].contains g
def famF (f : FuncId) (args : List AV) : VR := if isF f = true then (match args with
  | [.lit (.int .i64 k), x, y] => match slK .i64 x, slK .i64 y with
    | some d, some ix => some (fromP f d ix ∧ liBd d ∧ liBd ix ∧ 0 ≤ k ∧ k ≤ 4096, .lit (.int .i64 (fromS f k d ix)))
    | _, _ => none
  | _ => none) else none
theorem famF_c {g : Nat} {k : Int} {x y : AV} (h : isF g = true) : famF g [.lit (.int .i64 k), x, y] = match slK .i64 x, slK .i64 y with
    | some d, some ix => some (fromP g d ix ∧ liBd d ∧ liBd ix ∧ 0 ≤ k ∧ k ≤ 4096, .lit (.int .i64 (fromS g k d ix)))
    | _, _ => none := by unfold famF; rw [if_pos h]
theorem famF_no {g : Nat} {args : List AV} (h : isF g = false) : famF g args = none := by unfold famF; rw [h]; rfl
theorem famF_ok : ∀ f args p r, famF f args = some (p, r) → p → fok Try.prog f = true ∧ PC Try.prog f args r := by
  intro f args p r h hp
  unfold famF at h
  split at h
  · rename_i hf
    have hf' : f ∈ [104, 107, 109, 111, 114, 116, 118, 120] := by simpa [isF] using hf
    split at h
    · split at h
      · rename_i hx hy
        cases h
        refine ⟨?_, PC.weak (from_pc hf' hp.1 hp.2.1 hp.2.2.1 hp.2.2.2) ⟨LeA.refl _, slK_le hx, slK_le hy, trivial⟩⟩
        simp only [List.mem_cons, List.not_mem_nil, or_false] at hf'
        rcases hf' with rfl | rfl | rfl | rfl | rfl | rfl | rfl | rfl
        · exact fk104
        · exact fk107
        · exact fk109
        · exact fk111
        · exact fk114
        · exact fk116
        · exact fk118
        · exact fk120
      · cases h
    · cases h
  · cases h
noncomputable def J1 : Env := envM (P := Try.prog) famF jk2 zer (fun _ => false) (fun _ => false) [] []
theorem J1_ok : EnvOk Try.prog J1 := envMOk zer_ok famF_ok
set_option maxHeartbeats 4000000 in
theorem element_ec {σ : List AObj} {ix : List Int} {s e : ByteArray} {b : Bool} {rk d x : List Int} {y : AV} {g : Nat} {kk : Int} {oa ox ok : Nat} {k : AV → List AObj → Prop} (hg : isF g = true)
    (ha : σ[oa]? = some (.box 33 [.lit (.string e), .sl false 1 (ints .i64 d), .sl false 1 (ints .i64 x)])) (hx : σ[ox]? = some (.box 92 [.lit (.string s), .lit (.bool b), .sl false 1 (ints .i64 rk), y, .fn (.func g) [] []])) (hk : σ[ok]? = some (.box 3 [.lit (.int .i64 kk)]))
    (hp : fromP g d ix) (hd : liBd d) (hi : liBd ix) (hkk : 0 ≤ kk ∧ kk ≤ 4096) (h0 : 0 ≤ fromS g kk d ix) (h1 : fromS g kk d ix < x.length)
    (hq : k (.lit (.int .i64 (x.getD (fromS g kk d ix).toNat 0))) σ) : EC Try.prog 96 [.sl false 1 (ints .i64 ix), .ref oa 0, .ref ox 0, .ref ok 0] σ k := by
  refine ec_ofR J1_ok mixed (kp96) (rs := [.tmp 5]) Try.func96 rfl (by kernel_rfl) (by kernel_rfl) (Nat.le_of_ble_eq_true rfl) ?_
  simp only [initF_cons, initF_nil, Nat.reduceAdd]
  refine t_name fun KF => ?_
  unfold J1
  repeat' (first
   | (with_reducible first | refine t_seq fun K => ?_ | refine t_block ?_ | refine t_scope ?_ | refine t_label ?_ | refine t_skip ?_ | refine t_exit ?_ | refine t_ret ?_ | refine t_k ?_ | refine t_gF ?_ | exact kp_nil | exact Kp.refl _ | exact kp_to | refine kp_cons ?_ | refine kp_arr ?_ | refine kp_app ?_ | refine t_p ?_ | refine t_br (fun hc => ?_) fun hc => ?_)
   | ((with_reducible first | refine t_kE (t_openE ?_) | refine t_kD (t_openD ?_) | refine t_kE ?_ | refine t_kD ?_ | refine t_gS ?_ | refine t_kL ?_ | refine t_kLF ?_ ?_ | refine t_region fun K => ?_ | refine t_cond fun A B => ?_ | refine t_draw (by kernel_rfl) fun K => ?_); (try (first | refine t_hideE fun KL => ?_ | refine t_hideD fun KL => ?_)); simp only [go_sem, geff, kp96, ha, hx, hk, famF_c hg, slK_sl])
   | ((with_reducible refine kp_skip ?_ ?_); rfl) | simp only [thenQ, blockQ, scopeQ, Nat.reduceEqDiff, reduceIte] | (with_reducible first | refine And.intro ?_ ?_ | intro vr))
  all_goals try exact hp
  all_goals try exact hd
  all_goals try exact hi
  all_goals try (first | (with_reducible assumption) | (intros; (try simp only [Bool.and_eq_true, Bool.or_eq_true, Bool.or_eq_false_iff, Bool.not_eq_true', Bool.not_eq_false', decide_eq_true_eq, decide_eq_false_iff_not, beq_iff_eq, beq_eq_false_iff_ne, bne_iff_ne, bne_eq_false_iff_eq, ne_eq, inI64, List.length_append] at *) <;> omega))
  all_goals ((first | refine end_retE ?_ | refine end_normE ?_); simp only [fin, go_sem])
  exact hq
noncomputable def ecn96 : ECon Try.prog where
  f := 96
  c := fun args σ k => match args with
    | [x', .ref oa 0, .ref ox 0, .ref ok 0] => match slK .i64 x', σ[oa]?, σ[ox]?, σ[ok]? with
      | some ix, some (.box 33 [.lit (.string _), .sl false 1 d', .sl false 1 y']), some (.box 92 [.lit (.string _), .lit (.bool _), .sl false 1 rk', _, .fn (.func g) [] []]), some (.box 3 [.lit (.int .i64 kk)]) =>
        withK .i64 d' fun d => withK .i64 y' fun x => withK .i64 rk' fun _ => isF g = true ∧ fromP g d ix ∧ liBd d ∧ liBd ix ∧ (0 ≤ kk ∧ kk ≤ 4096) ∧ 0 ≤ fromS g kk d ix ∧ fromS g kk d ix < x.length ∧ k (.lit (.int .i64 (x.getD (fromS g kk d ix).toNat 0))) σ
      | _, _, _, _ => False
    | _ => False
  ok := by
    intro args σ k h
    split at h
    · split at h
      · rename_i hx ha hxx hk
        obtain ⟨d, hd, h1⟩ := withK_inv h
        obtain ⟨x, hxe, h2⟩ := withK_inv h1
        obtain ⟨rk, hrk, h3⟩ := withK_inv h2
        subst hd hxe hrk
        exact EC.weak (element_ec h3.1 ha hxx hk h3.2.1 h3.2.2.1 h3.2.2.2.1 h3.2.2.2.2.1 h3.2.2.2.2.2.1 h3.2.2.2.2.2.2.1 h3.2.2.2.2.2.2.2) (LeRL.cons (slK_leR hx) (LeRL.cons (LeR.refl _) (LeRL.cons (LeR.refl _) (LeRL.cons (LeR.refl _) LeRL.nil))))
      · exact h.elim
    · exact h.elim
  fk := fk96
theorem ecn96_f : ecn96.f = 96 := rfl
theorem ecn96_c {x' : AV} {oa ox ok : Nat} {σ : List AObj} {k : AV → List AObj → Prop} : ecn96.c [x', .ref oa 0, .ref ox 0, .ref ok 0] σ k = match slK .i64 x', σ[oa]?, σ[ox]?, σ[ok]? with
      | some ix, some (.box 33 [.lit (.string _), .sl false 1 d', .sl false 1 y']), some (.box 92 [.lit (.string _), .lit (.bool _), .sl false 1 rk', _, .fn (.func g) [] []]), some (.box 3 [.lit (.int .i64 kk)]) =>
        withK .i64 d' fun d => withK .i64 y' fun x => withK .i64 rk' fun _ => isF g = true ∧ fromP g d ix ∧ liBd d ∧ liBd ix ∧ (0 ≤ kk ∧ kk ≤ 4096) ∧ 0 ≤ fromS g kk d ix ∧ fromS g kk d ix < x.length ∧ k (.lit (.int .i64 (x.getD (fromS g kk d ix).toNat 0))) σ
      | _, _, _, _ => False := rfl
end Go.Proofs.Ytjlcbojpiieafaa

/- Elements that are only moved: all of them. -/
namespace Go.Proofs.Ytjlcbojpiieafaa
open Go Go.Fw
set_option maxRecDepth 20000

def gatherS (g : Nat) (k : Int) (out : List Int) (a : Arr) (n : Nat) : List Int := (List.range n).map fun (j : Nat) => a.x.getD (fromS g k a.d (digF out (j : Int))).toNat 0
theorem gatherS_zero {g : Nat} {k : Int} {out : List Int} {a : Arr} : gatherS g k out a 0 = [] := rfl
theorem gatherS_len {g : Nat} {k : Int} {out : List Int} {a : Arr} {n : Nat} : (gatherS g k out a n).length = n := by simp [gatherS]
theorem ints_nil {t : IntKind} : ints t [] = [] := rfl
theorem gatherS_succ {g : Nat} {k : Int} {out : List Int} {a : Arr} {n : Nat} : gatherS g k out a (n + 1) = gatherS g k out a n ++ [a.x.getD (fromS g k a.d (digF out n)).toNat 0] := by
  simp [gatherS, List.range_succ]
theorem noF65 : famF 65 = fun _ => none := by funext a; exact famF_no rfl
theorem noF95 : famF 95 = fun _ => none := by funext a; exact famF_no rfl
theorem noF96 : famF 96 = fun _ => none := by funext a; exact famF_no rfl
noncomputable def J2 : Env := envJ (P := Try.prog) jk2 zer (fun _ => false) (fun _ => false) [con65b, con95] [ecn96]
theorem J2_ok : EnvOk Try.prog J2 := envJOk zer_ok
structure Gat where
  i : Nat
  v : Nat
set_option maxHeartbeats 4000000 in
theorem gathered_pc {s : ByteArray} {b : Bool} {rk out : List Int} {o : Option Nat} {g : Nat} {k n : Int} {a : Arr} (hg : isF g = true) (hS : sizeS out = (n, 0)) (hd : liBd a.d) (hk : 0 ≤ k ∧ k ≤ 4096)
    (hp : ∀ p : Nat, (p : Int) < n → fromP g a.d (digF out p) ∧ liBd (digF out p) ∧ 0 ≤ fromS g k a.d (digF out p) ∧ fromS g k a.d (digF out p) < a.x.length) :
    PC Try.prog 74 [entV ⟨s, b, rk, o, some g⟩, .lit (.int .i64 k), .sl false 1 (ints .i64 out), arrV a] (.sl false 1 (ints .i64 (gatherS g k out a n.toNat))) := by
  have hz := sizeS_bd out
  rw [hS] at hz
  simp only at hz
  have hol := (sizeS_ok hS).1
  rcases o with _ | g2
  · skip
    refine pc_ofR J2_ok mixed (kp74) (rs := [.tmp 8]) Try.func74 rfl (by kernel_rfl) (by kernel_rfl) (Nat.le_of_ble_eq_true rfl) ?_
    simp only [initF_cons, initF_nil, Nat.reduceAdd]
    refine t_name fun KF => ?_
    unfold J2
    repeat' (first
     | (with_reducible first | refine t_seq fun K => ?_ | refine t_block ?_ | refine t_scope ?_ | refine t_label ?_ | refine t_skip ?_ | refine t_exit ?_ | refine t_ret ?_ | refine t_k ?_ | refine t_gF ?_ | exact kp_nil | exact Kp.refl _ | exact kp_to | refine kp_cons ?_ | refine kp_arr ?_ | refine kp_app ?_ | refine t_p ?_ | refine t_br (fun hc => ?_) fun hc => ?_)
     | ((with_reducible first | refine t_kE (t_openE ?_) | refine t_kD (t_openD ?_) | refine t_kE ?_ | refine t_kD ?_ | refine t_gS ?_ | refine t_kL ?_ | refine t_kLF ?_ ?_ | refine t_region fun K => ?_ | refine t_cond fun A B => ?_ | refine t_draw (by kernel_rfl) fun K => ?_); (try (first | refine t_hideE fun KL => ?_ | refine t_hideD fun KL => ?_)); simp only [go_sem, geff, kp74, con65b_f, con95_f, ecn96_f, con65b_c, hS, szV_def, slK_sl, entV_def, arrV_def, fnV_none, fnV_some])
     | ((with_reducible refine kp_skip ?_ ?_); rfl) | simp only [thenQ, blockQ, scopeQ, Nat.reduceEqDiff, reduceIte] | (with_reducible first | refine And.intro ?_ ?_ | intro vr))
    all_goals try (first | (with_reducible assumption) | (intros; (try simp only [Bool.and_eq_true, Bool.or_eq_true, Bool.or_eq_false_iff, Bool.not_eq_true', Bool.not_eq_false', decide_eq_true_eq, decide_eq_false_iff_not, beq_iff_eq, beq_eq_false_iff_ne, bne_iff_ne, bne_eq_false_iff_eq, ne_eq, inI64, List.length_append] at *) <;> omega))
    refine t_loopF (ι := { i : Gat // (i.i : Int) ≤ n }) (fun i => [(23, .lit (.int .i64 i.1.i)), (9, .arr 3 i.1.v)]) (fun i => [.box 92 [.lit (.string s), .lit (.bool b), .sl false 1 (ints .i64 rk), .lit .nilFunc, .fn (.func g) [] []], .box 3 [.lit (.int .i64 k)], .box 33 [.lit (.string a.e), .sl false 1 (ints .i64 a.d), .sl false 1 (ints .i64 a.x)], .arr 3 1 (ints .i64 (gatherS g k out a i.1.i)) i.1.v false]) (fun i => n.toNat - i.1.i) ⟨⟨0, 0⟩, by simpa using hz.1⟩ ?_ ?_
    · refine (le_nil 9 3 1 rfl).trans ?_
      simp only [updL_nil, updL_cons, delF_top, delF_upd, Nat.reduceEqDiff, reduceIte]
      simp only [gatherS_zero, ints_nil]
      refine Le.frameS (by first | rfl | (simp only [go_sem]; try rfl)) ?_
      repeat' (first | exact leF_top _ | exact (fun _ => LeR.refl _) | (with_reducible refine leF_sl ?_ ?_) | (refine leF_upd ?_ ?_))
      all_goals (first | exact LeR.top _ | exact LeR.refl _ | (refine LeR.of_eq ?_; (try simp only [go_sem]); try rfl) | ((try simp only [go_sem]); try rfl))
    rintro ⟨⟨i, v⟩, hi⟩ K0
    simp only at hi
    by_cases hc : (i : Int) < n
    · have g3 : decide ((i : Int) < n) = true := decide_eq_true hc
      obtain ⟨e1, -, -⟩ := idx_ok hS (by omega) hc
      obtain ⟨p1, p2, p3, p4⟩ := hp i hc
      repeat' (first
       | (with_reducible first | refine t_seq fun K => ?_ | refine t_block ?_ | refine t_scope ?_ | refine t_label ?_ | refine t_skip ?_ | refine t_exit ?_ | refine t_ret ?_ | refine t_k ?_ | refine t_gF ?_ | exact kp_nil | exact Kp.refl _ | exact kp_to | refine kp_cons ?_ | refine kp_arr ?_ | refine kp_app ?_ | refine t_p ?_ | refine t_br (fun hc => ?_) fun hc => ?_)
       | ((with_reducible first | refine t_kE (t_openE ?_) | refine t_kD (t_openD ?_) | refine t_kE ?_ | refine t_kD ?_ | refine t_gS ?_ | refine t_kL ?_ | refine t_kLF ?_ ?_ | refine t_region fun K => ?_ | refine t_cond fun A B => ?_ | refine t_draw (by kernel_rfl) fun K => ?_); (try (first | refine t_hideE fun KL => ?_ | refine t_hideD fun KL => ?_)); simp only [go_sem, geff, kp74, g3, Int.toNat_natCast, con65b_f, con95_f, ecn96_f, con95_c, ecn96_c, ixV_def, e1, slK_sl])
       | ((with_reducible refine kp_skip ?_ ?_); rfl) | simp only [thenQ, blockQ, scopeQ, Nat.reduceEqDiff, reduceIte] | (with_reducible first | refine And.intro ?_ ?_ | intro vr))
      all_goals try exact hg
      all_goals try exact p1
      all_goals try exact p2
      all_goals try exact hd
      all_goals try (first | (with_reducible assumption) | (intros; (try simp only [Bool.and_eq_true, Bool.or_eq_true, Bool.or_eq_false_iff, Bool.not_eq_true', Bool.not_eq_false', decide_eq_true_eq, decide_eq_false_iff_not, beq_iff_eq, beq_eq_false_iff_ne, bne_iff_ne, bne_eq_false_iff_eq, ne_eq, inI64, List.length_append] at *) <;> omega))
      · rw [gatherS_len]; omega
      · simp only [← gatherS_succ]
        refine ⟨⟨⟨i + 1, v + 1⟩, by show ((i + 1 : Nat) : Int) ≤ n; omega⟩, by first | (simp only; omega) | omega, ?_⟩
        simp only [updL_nil, updL_cons, delF_top, delF_upd, Nat.reduceEqDiff, reduceIte]
        refine Le.frameS (by first | rfl | (simp only [go_sem]; try rfl)) ?_
        repeat' (first | exact leF_top _ | exact (fun _ => LeR.refl _) | (with_reducible refine leF_sl ?_ ?_) | (refine leF_upd ?_ ?_))
        all_goals (first | exact LeR.top _ | exact LeR.refl _ | (refine LeR.of_eq ?_; (try simp only [go_sem]); try rfl) | ((try simp only [go_sem]); try rfl))
    · obtain rfl : n = (i : Int) := by omega
      have g3 : decide ((i : Int) < (i : Int)) = false := decide_eq_false hc
      repeat' (first
       | (with_reducible first | refine t_seq fun K => ?_ | refine t_block ?_ | refine t_scope ?_ | refine t_label ?_ | refine t_skip ?_ | refine t_exit ?_ | refine t_ret ?_ | refine t_k ?_ | refine t_gF ?_ | exact kp_nil | exact Kp.refl _ | exact kp_to | refine kp_cons ?_ | refine kp_arr ?_ | refine kp_app ?_ | refine t_p ?_ | refine t_br (fun hc => ?_) fun hc => ?_)
       | ((with_reducible first | refine t_kE (t_openE ?_) | refine t_kD (t_openD ?_) | refine t_kE ?_ | refine t_kD ?_ | refine t_gS ?_ | refine t_kL ?_ | refine t_kLF ?_ ?_ | refine t_region fun K => ?_ | refine t_cond fun A B => ?_ | refine t_draw (by kernel_rfl) fun K => ?_); (try (first | refine t_hideE fun KL => ?_ | refine t_hideD fun KL => ?_)); simp only [go_sem, geff, kp74, g3, Int.toNat_natCast, con65b_f, con95_f, ecn96_f])
       | ((with_reducible refine kp_skip ?_ ?_); rfl) | simp only [thenQ, blockQ, scopeQ, Nat.reduceEqDiff, reduceIte] | (with_reducible first | refine And.intro ?_ ?_ | intro vr))
      all_goals ((first | refine end_retE ?_ | refine end_normE ?_); simp only [fin, go_sem])
      exact LeA.refl _
  · skip
    refine pc_ofR J2_ok mixed (kp74) (rs := [.tmp 8]) Try.func74 rfl (by kernel_rfl) (by kernel_rfl) (Nat.le_of_ble_eq_true rfl) ?_
    simp only [initF_cons, initF_nil, Nat.reduceAdd]
    refine t_name fun KF => ?_
    unfold J2
    repeat' (first
     | (with_reducible first | refine t_seq fun K => ?_ | refine t_block ?_ | refine t_scope ?_ | refine t_label ?_ | refine t_skip ?_ | refine t_exit ?_ | refine t_ret ?_ | refine t_k ?_ | refine t_gF ?_ | exact kp_nil | exact Kp.refl _ | exact kp_to | refine kp_cons ?_ | refine kp_arr ?_ | refine kp_app ?_ | refine t_p ?_ | refine t_br (fun hc => ?_) fun hc => ?_)
     | ((with_reducible first | refine t_kE (t_openE ?_) | refine t_kD (t_openD ?_) | refine t_kE ?_ | refine t_kD ?_ | refine t_gS ?_ | refine t_kL ?_ | refine t_kLF ?_ ?_ | refine t_region fun K => ?_ | refine t_cond fun A B => ?_ | refine t_draw (by kernel_rfl) fun K => ?_); (try (first | refine t_hideE fun KL => ?_ | refine t_hideD fun KL => ?_)); simp only [go_sem, geff, kp74, con65b_f, con95_f, ecn96_f, con65b_c, hS, szV_def, slK_sl, entV_def, arrV_def, fnV_none, fnV_some])
     | ((with_reducible refine kp_skip ?_ ?_); rfl) | simp only [thenQ, blockQ, scopeQ, Nat.reduceEqDiff, reduceIte] | (with_reducible first | refine And.intro ?_ ?_ | intro vr))
    all_goals try (first | (with_reducible assumption) | (intros; (try simp only [Bool.and_eq_true, Bool.or_eq_true, Bool.or_eq_false_iff, Bool.not_eq_true', Bool.not_eq_false', decide_eq_true_eq, decide_eq_false_iff_not, beq_iff_eq, beq_eq_false_iff_ne, bne_iff_ne, bne_eq_false_iff_eq, ne_eq, inI64, List.length_append] at *) <;> omega))
    refine t_loopF (ι := { i : Gat // (i.i : Int) ≤ n }) (fun i => [(23, .lit (.int .i64 i.1.i)), (9, .arr 3 i.1.v)]) (fun i => [.box 92 [.lit (.string s), .lit (.bool b), .sl false 1 (ints .i64 rk), .fn (.func g2) [] [], .fn (.func g) [] []], .box 3 [.lit (.int .i64 k)], .box 33 [.lit (.string a.e), .sl false 1 (ints .i64 a.d), .sl false 1 (ints .i64 a.x)], .arr 3 1 (ints .i64 (gatherS g k out a i.1.i)) i.1.v false]) (fun i => n.toNat - i.1.i) ⟨⟨0, 0⟩, by simpa using hz.1⟩ ?_ ?_
    · refine (le_nil 9 3 1 rfl).trans ?_
      simp only [updL_nil, updL_cons, delF_top, delF_upd, Nat.reduceEqDiff, reduceIte]
      simp only [gatherS_zero, ints_nil]
      refine Le.frameS (by first | rfl | (simp only [go_sem]; try rfl)) ?_
      repeat' (first | exact leF_top _ | exact (fun _ => LeR.refl _) | (with_reducible refine leF_sl ?_ ?_) | (refine leF_upd ?_ ?_))
      all_goals (first | exact LeR.top _ | exact LeR.refl _ | (refine LeR.of_eq ?_; (try simp only [go_sem]); try rfl) | ((try simp only [go_sem]); try rfl))
    rintro ⟨⟨i, v⟩, hi⟩ K0
    simp only at hi
    by_cases hc : (i : Int) < n
    · have g3 : decide ((i : Int) < n) = true := decide_eq_true hc
      obtain ⟨e1, -, -⟩ := idx_ok hS (by omega) hc
      obtain ⟨p1, p2, p3, p4⟩ := hp i hc
      repeat' (first
       | (with_reducible first | refine t_seq fun K => ?_ | refine t_block ?_ | refine t_scope ?_ | refine t_label ?_ | refine t_skip ?_ | refine t_exit ?_ | refine t_ret ?_ | refine t_k ?_ | refine t_gF ?_ | exact kp_nil | exact Kp.refl _ | exact kp_to | refine kp_cons ?_ | refine kp_arr ?_ | refine kp_app ?_ | refine t_p ?_ | refine t_br (fun hc => ?_) fun hc => ?_)
       | ((with_reducible first | refine t_kE (t_openE ?_) | refine t_kD (t_openD ?_) | refine t_kE ?_ | refine t_kD ?_ | refine t_gS ?_ | refine t_kL ?_ | refine t_kLF ?_ ?_ | refine t_region fun K => ?_ | refine t_cond fun A B => ?_ | refine t_draw (by kernel_rfl) fun K => ?_); (try (first | refine t_hideE fun KL => ?_ | refine t_hideD fun KL => ?_)); simp only [go_sem, geff, kp74, g3, Int.toNat_natCast, con65b_f, con95_f, ecn96_f, con95_c, ecn96_c, ixV_def, e1, slK_sl])
       | ((with_reducible refine kp_skip ?_ ?_); rfl) | simp only [thenQ, blockQ, scopeQ, Nat.reduceEqDiff, reduceIte] | (with_reducible first | refine And.intro ?_ ?_ | intro vr))
      all_goals try exact hg
      all_goals try exact p1
      all_goals try exact p2
      all_goals try exact hd
      all_goals try (first | (with_reducible assumption) | (intros; (try simp only [Bool.and_eq_true, Bool.or_eq_true, Bool.or_eq_false_iff, Bool.not_eq_true', Bool.not_eq_false', decide_eq_true_eq, decide_eq_false_iff_not, beq_iff_eq, beq_eq_false_iff_ne, bne_iff_ne, bne_eq_false_iff_eq, ne_eq, inI64, List.length_append] at *) <;> omega))
      · rw [gatherS_len]; omega
      · simp only [← gatherS_succ]
        refine ⟨⟨⟨i + 1, v + 1⟩, by show ((i + 1 : Nat) : Int) ≤ n; omega⟩, by first | (simp only; omega) | omega, ?_⟩
        simp only [updL_nil, updL_cons, delF_top, delF_upd, Nat.reduceEqDiff, reduceIte]
        refine Le.frameS (by first | rfl | (simp only [go_sem]; try rfl)) ?_
        repeat' (first | exact leF_top _ | exact (fun _ => LeR.refl _) | (with_reducible refine leF_sl ?_ ?_) | (refine leF_upd ?_ ?_))
        all_goals (first | exact LeR.top _ | exact LeR.refl _ | (refine LeR.of_eq ?_; (try simp only [go_sem]); try rfl) | ((try simp only [go_sem]); try rfl))
    · obtain rfl : n = (i : Int) := by omega
      have g3 : decide ((i : Int) < (i : Int)) = false := decide_eq_false hc
      repeat' (first
       | (with_reducible first | refine t_seq fun K => ?_ | refine t_block ?_ | refine t_scope ?_ | refine t_label ?_ | refine t_skip ?_ | refine t_exit ?_ | refine t_ret ?_ | refine t_k ?_ | refine t_gF ?_ | exact kp_nil | exact Kp.refl _ | exact kp_to | refine kp_cons ?_ | refine kp_arr ?_ | refine kp_app ?_ | refine t_p ?_ | refine t_br (fun hc => ?_) fun hc => ?_)
       | ((with_reducible first | refine t_kE (t_openE ?_) | refine t_kD (t_openD ?_) | refine t_kE ?_ | refine t_kD ?_ | refine t_gS ?_ | refine t_kL ?_ | refine t_kLF ?_ ?_ | refine t_region fun K => ?_ | refine t_cond fun A B => ?_ | refine t_draw (by kernel_rfl) fun K => ?_); (try (first | refine t_hideE fun KL => ?_ | refine t_hideD fun KL => ?_)); simp only [go_sem, geff, kp74, g3, Int.toNat_natCast, con65b_f, con95_f, ecn96_f])
       | ((with_reducible refine kp_skip ?_ ?_); rfl) | simp only [thenQ, blockQ, scopeQ, Nat.reduceEqDiff, reduceIte] | (with_reducible first | refine And.intro ?_ ?_ | intro vr))
      all_goals ((first | refine end_retE ?_ | refine end_normE ?_); simp only [fin, go_sem])
      exact LeA.refl _
end Go.Proofs.Ytjlcbojpiieafaa

/- What the primitives' cells are, valid ones: four kinds of primitives. -/
namespace Go.Proofs.Ytjlcbojpiieafaa
open Go Go.Fw

def gatP (e : Ent) (k : Int) (out : List Int) (a : Arr) : Prop :=
  ∃ g, e.from_ = some g ∧ isF g = true ∧ (sizeS out).2 = 0 ∧ liBd a.d ∧ (0 ≤ k ∧ k ≤ 4096) ∧
    ∀ p : Nat, (p : Int) < (sizeS out).1 → fromP g a.d (digF out p) ∧ liBd (digF out p) ∧ 0 ≤ fromS g k a.d (digF out p) ∧ fromS g k a.d (digF out p) < a.x.length
inductive Cls (op : ByteArray) (k : Int) (cs : List Arr) (d : List Int) (e : Ent) : Prop
  | iota (n : Int) : eqS op n_iota = true → d = [n] → dm n → Cls op k cs d e
  | join : eqS op n_iota = false → (eqS op n_append || eqS op n_pack) = true → (cs.flatMap (·.x)).length ≤ 1000000 → Cls op k cs d e
  | pick : eqS op n_iota = false → eqS op n_append = false → eqS op n_pack = false → selS op = true → 2 ≤ cs.length → (eqS op n_index = false → 3 ≤ cs.length ∧ 0 < (cs.getD 2 nilA).x.length) → 0 < (cs.getD 1 nilA).x.length →
      (cs.getD 0 nilA).x.length ≤ 1000000 → Cls op k cs d e
  | move : eqS op n_iota = false → eqS op n_append = false → eqS op n_pack = false → selS op = false → 0 < cs.length → gatP e k d (cs.getD 0 nilA) → Cls op k cs d e
theorem map0 {cs : List Arr} (h : cs.map Arr.d = []) : cs = [] := by cases cs with | nil => rfl | cons _ _ => cases h
theorem map1 {cs : List Arr} {x : List Int} (h : cs.map Arr.d = [x]) : ∃ a, cs = [a] ∧ a.d = x := by
  match cs, h with
  | [a], h => exact ⟨a, rfl, by simpa using h⟩
  | [], h => cases h
  | _ :: _ :: _, h => simp at h
theorem map2 {cs : List Arr} {x y : List Int} (h : cs.map Arr.d = [x, y]) : ∃ a b, cs = [a, b] ∧ a.d = x ∧ b.d = y := by
  match cs, h with
  | [a, b], h => exact ⟨a, b, rfl, by simpa using h⟩
  | [], h => cases h
  | [_], h => simp at h
  | _ :: _ :: _ :: _, h => simp at h
theorem map3 {cs : List Arr} {x y z : List Int} (h : cs.map Arr.d = [x, y, z]) : ∃ a b c, cs = [a, b, c] ∧ a.d = x ∧ b.d = y ∧ c.d = z := by
  match cs, h with
  | [a, b, c], h => exact ⟨a, b, c, rfl, by simpa using h⟩
  | [], h => cases h
  | [_], h => simp at h
  | [_, _], h => simp at h
  | _ :: _ :: _ :: _ :: _, h => simp at h
theorem val_len {a : Arr} (h : ofE a = 0) : (a.x.length : Int) = prI a.d ∧ a.x.length ≤ 4096 := by
  have h1 := (ofE_inv h).2.1
  have := sizeS_ok h1
  omega
theorem val_len0 {a : Arr} (h : ofE a = 0) (hd : a.d = []) : a.x.length = 1 := by
  have := (val_len h).1
  rw [hd, prI] at this; omega
theorem val_len1 {a : Arr} {n : Int} (h : ofE a = 0) (hd : a.d = [n]) : (a.x.length : Int) = n := by
  have := (val_len h).1
  rw [hd, prI, prI] at this; omega
theorem val_len2 {a : Arr} {m n : Int} (h : ofE a = 0) (hd : a.d = [m, n]) : (a.x.length : Int) = m * n := by
  have := (val_len h).1
  rw [hd, prI, prI, prI, Int.mul_one] at this; omega
theorem digF_bd : ∀ (d : List Int) (o : Int), liBd d → (∀ x ∈ d, 1 ≤ x) → 0 ≤ o → o < prI d → liBd (digF d o)
  | [], _, _, _, _, _ => by intro x hx; cases hx
  | d :: t, o, hb, hl, h, hlt => by
    have hd := hb d (by simp)
    have ht : ∀ y ∈ t, 1 ≤ y := fun y hy => hl y (by simp [hy])
    have hp := prI_pos ht
    have h1 : 0 ≤ o / prI t := Int.ediv_nonneg h (by omega)
    have h2 : o / prI t < d := Int.ediv_lt_of_lt_mul (by omega) hlt
    intro x hx
    rcases List.mem_cons.1 hx with rfl | hx
    · omega
    · exact digF_bd t _ (fun y hy => hb y (by simp [hy])) ht (Int.emod_nonneg _ (by omega)) (Int.emod_lt_of_pos _ (by omega)) x hx
theorem dig1 {n o : Int} : digF [n] o = [o] := by simp [digF, prI]
theorem dig2 {m n o : Int} : digF [m, n] o = [o / n, o % n] := by simp [digF, prI]
theorem sum_len {cs : List Arr} (h : ∀ a ∈ cs, a.x.length ≤ 4096) : (cs.flatMap (·.x)).length ≤ 4096 * cs.length := by
  induction cs with
  | nil => simp
  | cons a t ih =>
    have h1 := h a (by simp)
    have h2 := ih fun b hb => h b (by simp [hb])
    simp only [List.flatMap_cons, List.length_append, List.length_cons]
    omega
theorem giv_f {op : ByteArray} {n : Int} {e : Ent} {e' : Ent} {ns num : Int} (h : givenS op ns num n = (e, 0)) (h' : findS op n = (e', true)) : e = e' := giv_e (given_ok h).2.2.2.2.2 h'
theorem getD1 {a b : Int} : ([a, b] : List Int).getD 1 0 = b := rfl
theorem getD0 {a : Int} {l : List Int} : (a :: l).getD 0 0 = a := rfl
set_option maxHeartbeats 1000000 in
theorem cls_of {op : ByteArray} {ns : List Int} {num : Int} {cs : List Arr} {d : List Int} {e : Ent} (hs : Shp op ns num (cs.map Arr.d) d) (hv : ∀ a ∈ cs, ofE a = 0) (hd : (sizeS d).2 = 0) (hg : givenS op ns.length num cs.length = (e, 0)) :
    Cls op (sizeK ns num) cs d e := by
  obtain ⟨-, hdm, hN, -⟩ := sizeS_ok (d := d) (n := (sizeS d).1) (Prod.ext rfl hd)
  have pos : ∀ p : Nat, (p : Int) < (sizeS d).1 → ∀ x ∈ d, 1 ≤ x := fun p hp => dims_pos (d := d) (n := (sizeS d).1) (Prod.ext rfl hd) (by omega) hp
  have dbd : ∀ p : Nat, (p : Int) < (sizeS d).1 → liBd (digF d p) := fun p hp => digF_bd d p hdm (pos p hp) (by omega) (by omega)
  have bdl : ∀ a ∈ cs, a.x.length ≤ 4096 := fun a ha => (val_len (hv a ha)).2
  have bdd : ∀ a ∈ cs, liBd a.d := fun a ha => (sizeS_ok (ofE_inv (hv a ha)).2.1).2.1
  generalize hds : cs.map Arr.d = ds at hs
  cases hs with
  | iota k hk => exact .iota k rfl rfl hk
  | fill k hk =>
    obtain ⟨a, rfl, ha⟩ := map1 hds
    refine .move rfl rfl rfl rfl (by simp) ⟨104, ?_, rfl, hd, bdd a (by simp), by simpa [sizeK, dm] using hk, fun p hp => ⟨trivial, dbd p hp, ?_, ?_⟩⟩
    · rw [giv_f hg (show findS n_fill _ = (ents.getD 1 ent0, true) from rfl)]; rfl
    · simp [fromS]
    · have := val_len0 (hv a (by simp)) ha
      simp only [fromS, List.getD_cons_zero]; omega
  | take k n hk hn hkn =>
    obtain ⟨a, rfl, ha⟩ := map1 hds
    have hl := val_len1 (hv a (by simp)) ha
    rw [prI, prI] at hN
    refine .move rfl rfl rfl rfl (by simp) ⟨107, ?_, rfl, hd, bdd a (by simp), by simpa [sizeK, dm] using hk, fun p hp => ⟨?_, dbd p hp, ?_, ?_⟩⟩
    · rw [giv_f hg (show findS n_take _ = (ents.getD 2 ent0, true) from rfl)]; rfl
    · rw [dig1]; simp [fromP]
    · simp only [fromS, dig1, getD0]; omega
    · simp only [fromS, dig1, getD0, List.getD_cons_zero]; omega
  | drop k n hk hn hkn =>
    obtain ⟨a, rfl, ha⟩ := map1 hds
    have hl := val_len1 (hv a (by simp)) ha
    rw [prI, prI] at hN
    have e1 : sizeK [k] 0 = k := by simp [sizeK]
    rw [e1]
    refine .move rfl rfl rfl rfl (by simp) ⟨109, ?_, rfl, hd, bdd a (by simp), hk, fun p hp => ⟨?_, dbd p hp, ?_, ?_⟩⟩
    · rw [giv_f hg (show findS n_drop _ = (ents.getD 3 ent0, true) from rfl)]; rfl
    · rw [dig1]; simp [fromP]
    · simp only [fromS, dig1, getD0]; have := hk.1; omega
    · simp only [fromS, dig1, getD0, List.getD_cons_zero]; omega
  | reverse n hn =>
    obtain ⟨a, rfl, ha⟩ := map1 hds
    have hl := val_len1 (hv a (by simp)) ha
    rw [prI, prI] at hN
    refine .move rfl rfl rfl rfl (by simp) ⟨111, ?_, rfl, hd, bdd a (by simp), by simp [sizeK], fun p hp => ⟨?_, dbd p hp, ?_, ?_⟩⟩
    · rw [giv_f hg (show findS n_reverse _ = (ents.getD 4 ent0, true) from rfl)]; rfl
    · rw [dig1]; simp [fromP, ha]
    · simp only [fromS, dig1, getD0, List.getD_cons_zero, ha]; omega
    · simp only [fromS, dig1, getD0, List.getD_cons_zero, ha]; omega
  | append m n hm hn =>
    refine .join rfl rfl ?_
    have := sum_len bdl
    have : cs.length = 2 := by have := congrArg List.length hds; simpa using this
    omega
  | transpose m n hm hn =>
    obtain ⟨a, rfl, ha⟩ := map1 hds
    have hl := val_len2 (hv a (by simp)) ha
    rw [prI, prI, prI, Int.mul_one] at hN
    have key : ∀ p : Nat, (p : Int) < (sizeS [n, m]).1 → 0 ≤ (p : Int) % m * n + (p : Int) / m ∧ (p : Int) % m * n + (p : Int) / m < m * n := by
      intro p hp
      have hm1 := pos p hp m (by simp)
      have hn1 := pos p hp n (by simp)
      have a1 := Int.emod_nonneg (p : Int) (show m ≠ 0 by omega)
      have a2 := Int.emod_lt_of_pos (p : Int) (show 0 < m by omega)
      have a3 : 0 ≤ (p : Int) / m := Int.ediv_nonneg (by omega) (by omega)
      have a4 : (p : Int) / m < n := Int.ediv_lt_of_lt_mul (by omega) (by omega)
      have a5 : 0 ≤ (p : Int) % m * n := Int.mul_nonneg a1 (by omega)
      have a6 : ((p : Int) % m + 1) * n ≤ m * n := Int.mul_le_mul_of_nonneg_right (by omega) (by omega)
      rw [Int.add_mul, Int.one_mul] at a6
      omega
    refine .move rfl rfl rfl rfl (by simp) ⟨114, ?_, rfl, hd, bdd a (by simp), by simp [sizeK], fun p hp => ⟨?_, dbd p hp, ?_, ?_⟩⟩
    · rw [giv_f hg (show findS n_transpose _ = (ents.getD 6 ent0, true) from rfl)]; rfl
    · rw [dig2]; simp [fromP, ha]
    · simp only [fromS, dig2, getD0, getD1, List.getD_cons_zero, ha]; exact (key p hp).1
    · simp only [fromS, dig2, getD0, getD1, List.getD_cons_zero, ha]; rw [hl]; exact (key p hp).2
  | diagonal n hn =>
    obtain ⟨a, rfl, ha⟩ := map1 hds
    have hl := val_len2 (hv a (by simp)) ha
    rw [prI, prI, Int.mul_one] at hN
    have key : ∀ p : Nat, (p : Int) < (sizeS [n]).1 → 0 ≤ (p : Int) * n + p ∧ (p : Int) * n + p < n * n := by
      intro p hp
      have a5 : 0 ≤ (p : Int) * n := Int.mul_nonneg (by omega) hn.1
      have a6 : ((p : Int) + 1) * n ≤ n * n := Int.mul_le_mul_of_nonneg_right (by omega) hn.1
      rw [Int.add_mul, Int.one_mul] at a6
      omega
    refine .move rfl rfl rfl rfl (by simp) ⟨116, ?_, rfl, hd, bdd a (by simp), by simp [sizeK], fun p hp => ⟨?_, dbd p hp, ?_, ?_⟩⟩
    · rw [giv_f hg (show findS n_diagonal _ = (ents.getD 7 ent0, true) from rfl)]; rfl
    · rw [dig1]; simp [fromP, ha]
    · simp only [fromS, dig1, getD0, getD1, List.getD_cons_zero, ha]; exact (key p hp).1
    · simp only [fromS, dig1, getD0, getD1, List.getD_cons_zero, ha]; rw [hl]; exact (key p hp).2
  | windows k n hk hn hkn =>
    obtain ⟨a, rfl, ha⟩ := map1 hds
    have hl := val_len1 (hv a (by simp)) ha
    rw [prI, prI, prI, Int.mul_one] at hN
    have key : ∀ p : Nat, (p : Int) < (sizeS [n - k + 1, k]).1 → 0 ≤ (p : Int) / k + (p : Int) % k ∧ (p : Int) / k + (p : Int) % k < n := by
      intro p hp
      have hm1 := pos p hp k (by simp)
      have a1 := Int.emod_nonneg (p : Int) (show k ≠ 0 by omega)
      have a2 := Int.emod_lt_of_pos (p : Int) (show 0 < k by omega)
      have a3 : 0 ≤ (p : Int) / k := Int.ediv_nonneg (by omega) (by omega)
      have a4 : (p : Int) / k < n - k + 1 := Int.ediv_lt_of_lt_mul (by omega) (by omega)
      omega
    refine .move rfl rfl rfl rfl (by simp) ⟨118, ?_, rfl, hd, bdd a (by simp), by simpa [sizeK, dm] using hk, fun p hp => ⟨?_, dbd p hp, ?_, ?_⟩⟩
    · rw [giv_f hg (show findS n_windows _ = (ents.getD 8 ent0, true) from rfl)]; rfl
    · rw [dig2]; simp [fromP]
    · simp only [fromS, dig2, getD0, getD1, List.getD_cons_zero]; exact (key p hp).1
    · simp only [fromS, dig2, getD0, getD1, List.getD_cons_zero]; rw [hl]; exact (key p hp).2
  | chunk c q hc1 hc2 hq hn =>
    obtain ⟨a, rfl, ha⟩ := map1 hds
    have hl := val_len1 (hv a (by simp)) ha
    rw [prI, prI, prI, Int.mul_one] at hN
    have e1 : sizeK [] num = num := rfl
    have key : ∀ p : Nat, (p : Int) / num * num + (p : Int) % num = p := fun p => by
      have := Int.emod_add_mul_ediv (p : Int) num
      rw [Int.mul_comm] at this; omega
    rw [e1]
    refine .move rfl rfl rfl rfl (by simp) ⟨120, ?_, rfl, hd, bdd a (by simp), by omega, fun p hp => ⟨?_, dbd p hp, ?_, ?_⟩⟩
    · rw [giv_f hg (show findS n_chunk _ = (ents.getD 9 ent0, true) from rfl)]; rfl
    · rw [dig2]; simp [fromP]
    · simp only [fromS, dig2, getD0, getD1, List.getD_cons_zero]; rw [key]; omega
    · simp only [fromS, dig2, getD0, getD1, List.getD_cons_zero]; rw [key, hl]; omega
  | index n hn =>
    obtain ⟨a, b, rfl, ha, hb⟩ := map2 hds
    have hl := val_len0 (hv b (by simp)) hb
    refine .pick rfl rfl rfl rfl (by simp) (fun h => by cases h) (by simp; omega) ?_
    have := bdl a (by simp)
    simp only [List.getD_cons_zero]; omega
  | update n hn =>
    obtain ⟨a, b, c, rfl, ha, hb, hc⟩ := map3 hds
    have hl := val_len0 (hv b (by simp)) hb
    have hl2 := val_len0 (hv c (by simp)) hc
    refine .pick rfl rfl rfl rfl (by simp) (fun h => ⟨by simp, by simp; omega⟩) (by simp; omega) ?_
    have := bdl a (by simp)
    simp only [List.getD_cons_zero]; omega
  | pack m hm1 hm2 =>
    refine .join rfl rfl ?_
    have h0 : ∀ a ∈ cs, a.x.length ≤ 1 := fun a ha => by
      have : a.d ∈ cs.map Arr.d := List.mem_map_of_mem ha
      rw [hds] at this
      have := val_len0 (hv a ha) (List.eq_of_mem_replicate this)
      omega
    have hlen : cs.length = m := by have := congrArg List.length hds; simpa using this
    have : ∀ (l : List Arr), (∀ a ∈ l, a.x.length ≤ 1) → (l.flatMap (·.x)).length ≤ l.length := by
      intro l hl
      induction l with
      | nil => simp
      | cons a t ih =>
        have := ih fun b hb => hl b (by simp [hb])
        have := hl a (by simp)
        simp only [List.flatMap_cons, List.length_append, List.length_cons]; omega
    have := this cs h0
    omega
end Go.Proofs.Ytjlcbojpiieafaa

/- What Apply computes: the walk. -/
namespace Go.Proofs.Ytjlcbojpiieafaa
open Go Go.Fw
set_option maxRecDepth 20000

theorem gathP_pc {e : Ent} {k : Int} {out : List Int} {a : Arr} (h : gatP e k out a) : PC Try.prog 74 [entV e, .lit (.int .i64 k), .sl false 1 (ints .i64 out), arrV a] (.sl false 1 (ints .i64 (gatherS (e.from_.getD 0) k out a (sizeS out).1.toNat))) := by
  obtain ⟨g, hg, hf, hS, hd, hk, hp⟩ := h
  obtain ⟨s, b, rk, o, p⟩ := e
  simp only at hg
  subst hg
  exact gathered_pc hf (n := (sizeS out).1) (Prod.ext rfl hS) hd hk hp
theorem entOf_le {x : AV} {e : Ent} (h : entOf x = some e) : LeA x (entV e) := by
  unfold entOf at h
  split at h
  · split at h
    · rename_i hr
      split at h <;> first | (cases h; done) | (cases h; exact LeA.agg ⟨LeA.refl _, LeA.refl _, slK_le hr, LeA.refl _, LeA.refl _, trivial⟩)
    · cases h
  · cases h
theorem entOf_mv {s : ByteArray} {b : Bool} {x : AV} {g h : Nat} : entOf (.agg [.lit (.string s), .lit (.bool b), x, .fn (.func g) [] [], .fn (.func h) [] []]) = match slK .i64 x with
    | some r => some ⟨s, b, r, some g, some h⟩
    | none => none := rfl
noncomputable def con74 : PCon Try.prog where
  f := 74
  c := fun
    | [xe, .lit (.int .i64 k), xout, xa] => match entOf xe, slK .i64 xout, arrOf xa with | some e, some out, some a => some (gatP e k out a, .sl false 1 (ints .i64 (gatherS (e.from_.getD 0) k out a (sizeS out).1.toNat))) | _, _, _ => none
    | _ => none
  ok := by
    intro args p r hc hp
    split at hc
    · split at hc
      · rename_i he hout ha
        cases hc
        exact PC.weak (gathP_pc hp) ⟨entOf_le he, LeA.refl _, slK_le hout, arrOf_le ha, trivial⟩
      · cases hc
    · cases hc
  fk := fk74
theorem con74_f : con74.f = 74 := rfl
theorem con74_c {xe : AV} {k : Int} {xout : AV} {xa : AV} : con74.c [xe, .lit (.int .i64 k), xout, xa] = match entOf xe, slK .i64 xout, arrOf xa with | some e, some out, some a => some (gatP e k out a, .sl false 1 (ints .i64 (gatherS (e.from_.getD 0) k out a (sizeS out).1.toNat))) | _, _, _ => none := rfl
noncomputable def con73 : PCon Try.prog where
  f := 73
  c := fun
    | [.lit (.string op), xcs] => match arrsOf xcs with | some cs => some (2 ≤ cs.length ∧ (eqS op n_index = false → 3 ≤ cs.length ∧ 0 < (cs.getD 2 nilA).x.length) ∧ 0 < (cs.getD 1 nilA).x.length ∧ (cs.getD 0 nilA).x.length ≤ 1000000, ibV (checkedS op cs)) | _ => none
    | _ => none
  ok := by
    intro args p r hc hp
    split at hc
    · split at hc
      · rename_i hcs
        cases hc
        exact PC.weak ((fun hp : _ ∧ _ ∧ _ ∧ _ => checked_pc hp.1 hp.2.1 hp.2.2.1 hp.2.2.2) hp) ⟨LeA.refl _, arrsOf_le hcs, trivial⟩
      · cases hc
    · cases hc
  fk := fk73
theorem con73_f : con73.f = 73 := rfl
theorem con73_c {op : ByteArray} {xcs : AV} : con73.c [.lit (.string op), xcs] = match arrsOf xcs with | some cs => some (2 ≤ cs.length ∧ (eqS op n_index = false → 3 ≤ cs.length ∧ 0 < (cs.getD 2 nilA).x.length) ∧ 0 < (cs.getD 1 nilA).x.length ∧ (cs.getD 0 nilA).x.length ≤ 1000000, ibV (checkedS op cs)) | _ => none := rfl
theorem con74_d {s : ByteArray} {b : Bool} {x y z : AV} {g h : Nat} {k : Int} : con74.c [.agg [.lit (.string s), .lit (.bool b), x, .fn (.func g) [] [], .fn (.func h) [] []], .lit (.int .i64 k), y, z] = match slK .i64 x, slK .i64 y, arrOf z with
    | some r, some out, some a => some (gatP ⟨s, b, r, some g, some h⟩ k out a, .sl false 1 (ints .i64 (gatherS h k out a (sizeS out).1.toNat)))
    | _, _, _ => none := by
  rw [con74_c, entOf_mv]
  cases slK .i64 x with
  | none => rfl
  | some r => cases slK .i64 y with
    | none => rfl
    | some out => cases arrOf z with
      | none => rfl
      | some a => rfl
def valA (a : Arr) : Bool := ofE a == 0
def rangeS (n : Nat) : List Int := (List.range n).map fun (i : Nat) => (i : Int)
def dataS (op : ByteArray) (k : Int) (d : List Int) (cs : List Arr) (g : Nat) : List Int × Bool :=
  if eqS op n_iota = true then (rangeS (d.getD 0 0).toNat, false)
  else if (eqS op n_append || eqS op n_pack) = true then (cs.flatMap (·.x), false)
  else if selS op = true then checkedS op cs
  else (gatherS g k d (cs.getD 0 nilA) (sizeS d).1.toNat, false)
def applyT (op : ByteArray) (k : Int) (cs : List Arr) (g : Nat) (r : ByteArray × Bool) (D : List Int × Int) : Arr × Bool × Int :=
  if r.2 = false then (nilA, false, 12)
  else if D.2 ≠ 0 then (nilA, false, D.2)
  else (⟨r.1, D.1, (dataS op k D.1 cs g).1⟩, (dataS op k D.1 cs g).2, 0)
def applyS (op : ByteArray) (ns : List Int) (num : Int) (cs : List Arr) : Arr × Bool × Int :=
  if (givenS op ns.length num cs.length).2 ≠ 0 then (nilA, false, (givenS op ns.length num cs.length).2)
  else if cs.all valA = false then (nilA, false, 1)
  else applyT op (sizeK ns num) cs ((givenS op ns.length num cs.length).1.from_.getD 0) (resultS op (cs.map (·.e))) (dimsI op ns num (cs.map (·.d)))
theorem cls_full {op : ByteArray} {ns : List Int} {num : Int} {cs : List Arr} {e : Ent} (hG : givenS op ns.length num cs.length = (e, 0)) (hv : ∀ a ∈ cs, ofE a = 0) (h : (dimsI op ns num (cs.map (·.d))).2 = 0) :
    Cls op (sizeK ns num) cs (dimsI op ns num (cs.map (·.d))).1 e := by
  generalize hD : dimsI op ns num (cs.map (·.d)) = D at h ⊢
  obtain ⟨d, de⟩ := D
  simp only at h
  subst h
  obtain ⟨h1, h2, h3, _⟩ := shp_of hD
  exact cls_of h1 hv h2 hG
def appV (r : Arr × Bool × Int) : AV := .tup [arrV r.1, .lit (.bool r.2.1), .lit (.int .i64 r.2.2)]
theorem appV_def {r : Arr × Bool × Int} : appV r = .tup [arrV r.1, .lit (.bool r.2.1), .lit (.int .i64 r.2.2)] := rfl
theorem app_of {e : ByteArray} {x y : AV} {b : Bool} {n : Int} {d w : List Int} {r : Arr × Bool × Int} (hx : slK .i64 x = some d) (hy : slK .i64 y = some w) (h : r = (⟨e, d, w⟩, b, n)) : LeA (.tup [.agg [.lit (.string e), x, y], .lit (.bool b), .lit (.int .i64 n)]) (appV r) := by
  subst h
  exact LeA.tup ⟨LeA.agg ⟨LeA.refl _, slK_le hx, slK_le hy, trivial⟩, LeA.refl _, LeA.refl _, trivial⟩
def elT (cs : List Arr) (i : Nat) : List ByteArray := (cs.take i).map (·.e)
def dmT (cs : List Arr) (i : Nat) : List (List Int) := (cs.take i).map (·.d)
def xsT (cs : List Arr) (i : Nat) : List Int := (cs.take i).flatMap (·.x)
theorem take_getD {cs : List Arr} {i : Nat} (h : i < cs.length) : cs.take (i + 1) = cs.take i ++ [cs.getD i nilA] := by
  rw [List.take_add_one, List.getElem?_eq_getElem h, List.getD_eq_getElem?_getD, List.getElem?_eq_getElem h]; rfl
theorem elT_succ {cs : List Arr} {i : Nat} (h : i < cs.length) : elT cs (i + 1) = elT cs i ++ [(cs.getD i nilA).e] := by simp only [elT, take_getD h, List.map_append, List.map_cons, List.map_nil]
theorem dmT_succ {cs : List Arr} {i : Nat} (h : i < cs.length) : dmT cs (i + 1) = dmT cs i ++ [(cs.getD i nilA).d] := by simp only [dmT, take_getD h, List.map_append, List.map_cons, List.map_nil]
theorem xsT_succ {cs : List Arr} {i : Nat} (h : i < cs.length) : xsT cs (i + 1) = xsT cs i ++ (cs.getD i nilA).x := by simp only [xsT, take_getD h, List.flatMap_append, List.flatMap_cons, List.flatMap_nil, List.append_nil]
theorem elT_all {cs : List Arr} : elT cs cs.length = cs.map (·.e) := by simp [elT]
theorem dmT_all {cs : List Arr} : dmT cs cs.length = cs.map (·.d) := by simp [dmT]
theorem xsT_all {cs : List Arr} : xsT cs cs.length = cs.flatMap (·.x) := by simp [xsT]
theorem elT_len {cs : List Arr} {i : Nat} (h : i ≤ cs.length) : (elT cs i).length = i := by simp [elT]; omega
theorem dmT_len {cs : List Arr} {i : Nat} (h : i ≤ cs.length) : (dmT cs i).length = i := by simp [dmT]; omega
theorem xsT_zero {cs : List Arr} : xsT cs 0 = [] := rfl
theorem rangeS_zero : rangeS 0 = [] := rfl
theorem rangeS_succ {n : Nat} : rangeS (n + 1) = rangeS n ++ [(n : Int)] := by simp [rangeS, List.range_succ]
theorem rangeS_len (n : Nat) : (rangeS n).length = n := by simp [rangeS]
theorem xsT_le (cs : List Arr) (i : Nat) : (xsT cs i).length ≤ (cs.flatMap (·.x)).length := by
  have h : cs.flatMap (·.x) = xsT cs i ++ (cs.drop i).flatMap (·.x) := by
    unfold xsT
    rw [← List.flatMap_append, List.take_append_drop]
  rw [h, List.length_append]; omega
theorem ents_dims {e : Ent} {n : Int} (h : e ∈ ents ∨ e = packE n) : ∃ g, e.dims = some g := by
  rcases h with h | rfl
  · simp only [ents, List.mem_cons, List.not_mem_nil, or_false] at h
    rcases h with rfl | rfl | rfl | rfl | rfl | rfl | rfl | rfl | rfl | rfl | rfl | rfl <;> exact ⟨_, rfl⟩
  · exact ⟨_, rfl⟩
theorem strs_nil' : strs [] = [] := rfl
theorem ils_nil' : ils [] = [] := rfl
theorem all_drop {cs : List Arr} {i : Nat} (h : i < cs.length) : (cs.drop i).all valA = (valA (cs.getD i nilA) && (cs.drop (i + 1)).all valA) := by
  rw [drop_getD nilA h, List.all_cons]
noncomputable def K1 : Env := envJ (P := Try.prog) jk2 zer (fun _ => false) (fun _ => false) [con42, con43, con60, con72, con73, con74, con75] []
theorem K1_ok : EnvOk Try.prog K1 := envJOk zer_ok
theorem low_fnV {n : Nat} {p : Option Nat} : low1 n (fnV p) = true := by cases p <;> rfl
structure Two where
  i : Nat
  v : Nat
  u : Nat
set_option maxHeartbeats 8000000 in
theorem apply_pc {op : ByteArray} {ns : List Int} {num : Int} {cs : List Arr} (hn : cs.length ≤ 4096) (ho : ∀ a ∈ cs, okA a) : PC Try.prog 40 [.lit (.string op), .sl false 1 (ints .i64 ns), .lit (.int .i64 num), .sl false 3 (arrs cs)] (appV (applyS op ns num cs)) := by
  generalize hR : applyS op ns num cs = R
  unfold applyS at hR
  generalize hG : givenS op ns.length num cs.length = r at hR
  obtain ⟨e, er⟩ := r
  simp only at hR
  by_cases h0 : er = 0
  · subst h0
    rw [if_neg (by simp)] at hR
    obtain ⟨s, b, rk, o, p⟩ := e
    have hcl : (∀ a ∈ cs, ofE a = 0) → (dimsI op ns num (cs.map (·.d))).2 = 0 → Cls op (sizeK ns num) cs (dimsI op ns num (cs.map (·.d))).1 ⟨s, b, rk, o, p⟩ := fun hv h => cls_full hG hv h
    obtain ⟨g1, ho1⟩ := ents_dims (given_ok hG).1
    simp only at ho1
    have hl1 : (cs.map (·.e)).length = cs.length := List.length_map ..
    have hl2 : (cs.map (·.d)).length = cs.length := List.length_map ..
    generalize hr : resultS op (cs.map (·.e)) = q at hR
    generalize hD : dimsI op ns num (cs.map (·.d)) = D at hR hcl
    generalize hA : cs.all valA = AA at hR
    obtain ⟨el, okk⟩ := q
    obtain ⟨d, de⟩ := D
    simp only at hR hcl
    refine pc_ofR K1_ok mixed (kp40) (rs := [.cell 8 33, .tmp 9, .tmp 10]) Try.func40 rfl (by kernel_rfl) (by kernel_rfl) (Nat.le_of_ble_eq_true rfl) ?_
    simp only [initF_cons, initF_nil, Nat.reduceAdd]
    refine t_name fun KF => ?_
    unfold K1
    repeat' (first
     | (with_reducible first | refine t_seq fun K => ?_ | refine t_block ?_ | refine t_scope ?_ | refine t_label ?_ | refine t_skip ?_ | refine t_exit ?_ | refine t_ret ?_ | refine t_k ?_ | refine t_gF ?_ | exact kp_nil | exact Kp.refl _ | exact kp_to | refine kp_cons ?_ | refine kp_arr ?_ | refine kp_app ?_ | refine t_p ?_ | refine t_br (fun hc => ?_) fun hc => ?_)
     | ((with_reducible first | refine t_kE (t_openE ?_) | refine t_kD (t_openD ?_) | refine t_kE ?_ | refine t_kD ?_ | refine t_gS ?_ | refine t_kL ?_ | refine t_kLF ?_ ?_ | refine t_region fun K => ?_ | refine t_cond fun A B => ?_ | refine t_drawE (id := 11) (fun _ => true) [(0, true), (1, true), (2, true), (3, true), (5, true), (6, true), (7, true), (8, true), (4, false), (9, false), (10, true), (11, true)] (by kernel_rfl) fun K => ?_ | refine t_drawE (id := 21) (fun i => i == 1) [(0, true), (1, true), (2, true), (4, true), (5, true), (6, true), (7, true), (3, false), (8, false), (9, true), (10, false)] (by kernel_rfl) fun K => ?_ | refine t_draw (by kernel_rfl) fun K => ?_); (try (first | refine t_hideE fun KL => ?_ | refine t_hideD fun KL => ?_)); simp only [go_sem, geff, kp40, con42_f, con43_f, con60_f, con72_f, con73_f, con74_f, con75_f, con72_c, arrs_length, slK_sl, gV_def, hG, entV_def])
     | ((with_reducible refine kp_skip ?_ ?_); rfl) | simp only [thenQ, blockQ, scopeQ, Nat.reduceEqDiff, reduceIte] | (with_reducible first | refine And.intro ?_ ?_ | intro vr))
    all_goals try (first | (with_reducible assumption) | (intros; (try simp only [Bool.and_eq_true, Bool.or_eq_true, Bool.or_eq_false_iff, Bool.not_eq_true', Bool.not_eq_false', decide_eq_true_eq, decide_eq_false_iff_not, beq_iff_eq, beq_eq_false_iff_ne, bne_iff_ne, bne_eq_false_iff_eq, ne_eq, inI64, List.length_append] at *) <;> omega))
    refine t_loopF (ι := { i : Two // i.i ≤ cs.length ∧ (cs.drop i.i).all valA = AA }) (fun i => [(38, .lit (.int .i64 i.1.i)), (12, .arr 2 i.1.v), (13, .arr 3 i.1.u)]) (fun i => [.box 33 [.lit (.string ByteArray.empty), .sl true 1 [], .sl true 1 []], .box 92 [.lit (.string s), .lit (.bool b), .sl false 1 (ints .i64 rk), fnV o, fnV p], .arr 9 1 (strs (elT cs i.1.i)) i.1.v false, .arr 23 1 (ils (dmT cs i.1.i)) i.1.u false]) (fun i => cs.length - i.1.i) ⟨⟨0, 0, 0⟩, by simp, hA⟩ ?_ ?_
    · refine (le_nil 12 9 1 rfl).trans ((le_nil 13 23 1 rfl).trans ?_)
      simp only [updL_nil, updL_cons, delF_top, delF_upd, Nat.reduceEqDiff, reduceIte]
      simp only [elT, dmT, List.take_zero, List.map_nil, strs_nil', ils_nil']
      refine Le.frameS (by first | rfl | (simp only [go_sem]; try rfl)) ?_
      repeat' (first | exact leF_top _ | exact (fun _ => LeR.refl _) | (with_reducible refine leF_sl ?_ ?_) | (refine leF_upd ?_ ?_))
      all_goals (first | exact LeR.top _ | exact LeR.refl _ | (refine LeR.of_eq ?_; (try simp only [go_sem]); try rfl) | ((try simp only [go_sem]); try rfl))
    rintro ⟨⟨i, v, u⟩, hi, hF⟩ K0
    simp only at hi hF
    rcases Nat.lt_or_ge i cs.length with hc | hc
    · rw [all_drop hc] at hF
      have g3 : decide ((i : Int) < (cs.length : Int)) = true := decide_eq_true (by omega)
      have hm : cs.getD i nilA ∈ cs := by rw [List.getD_eq_getElem?_getD, List.getElem?_eq_getElem hc]; exact List.getElem_mem hc
      have o1 := (ho _ hm).1
      have o2 := (ho _ hm).2
      have hl3 := elT_len (cs := cs) (i := i) (by omega)
      have hl4 := dmT_len (cs := cs) (i := i) (by omega)
      cases hv : (ofE (cs.getD i nilA) == 0) with
      | false =>
        rw [show valA (cs.getD i nilA) = false from hv, Bool.false_and] at hF
        rw [if_pos hF.symm] at hR
        repeat' (first
         | (with_reducible first | refine t_seq fun K => ?_ | refine t_block ?_ | refine t_scope ?_ | refine t_label ?_ | refine t_skip ?_ | refine t_exit ?_ | refine t_ret ?_ | refine t_k ?_ | refine t_gF ?_ | exact kp_nil | exact Kp.refl _ | exact kp_to | refine kp_cons ?_ | refine kp_arr ?_ | refine kp_app ?_ | refine t_p ?_ | refine t_br (fun hc => ?_) fun hc => ?_)
         | ((with_reducible first | refine t_kE (t_openE ?_) | refine t_kD (t_openD ?_) | refine t_kE ?_ | refine t_kD ?_ | refine t_gS ?_ | refine t_kL ?_ | refine t_kLF ?_ ?_ | refine t_region fun K => ?_ | refine t_cond fun A B => ?_ | refine t_drawE (id := 11) (fun _ => true) [(0, true), (1, true), (2, true), (3, true), (5, true), (6, true), (7, true), (8, true), (4, false), (9, false), (10, true), (11, true)] (by kernel_rfl) fun K => ?_ | refine t_drawE (id := 21) (fun i => i == 1) [(0, true), (1, true), (2, true), (4, true), (5, true), (6, true), (7, true), (3, false), (8, false), (9, true), (10, false)] (by kernel_rfl) fun K => ?_ | refine t_draw (by kernel_rfl) fun K => ?_); (try (first | refine t_hideE fun KL => ?_ | refine t_hideD fun KL => ?_)); simp only [go_sem, geff, kp40, g3, hv, Int.toNat_natCast, con42_f, con43_f, con60_f, con72_f, con73_f, con74_f, con75_f, con60_c, arrs_length, arrV_def', arrOf_agg, slK_sl, strs_length, ils_length, strs_append1, ils_app])
         | ((with_reducible refine kp_skip ?_ ?_); rfl) | simp only [thenQ, blockQ, scopeQ, Nat.reduceEqDiff, reduceIte] | (with_reducible first | refine And.intro ?_ ?_ | intro vr))
        all_goals try (first | (with_reducible assumption) | (intros; (try simp only [Bool.and_eq_true, Bool.or_eq_true, Bool.or_eq_false_iff, Bool.not_eq_true', Bool.not_eq_false', decide_eq_true_eq, decide_eq_false_iff_not, beq_iff_eq, beq_eq_false_iff_ne, bne_iff_ne, bne_eq_false_iff_eq, ne_eq, inI64, List.length_append] at *) <;> omega))
        all_goals ((first | refine end_retE ?_ | refine end_normE ?_); simp only [fin, go_sem])
        exact app_of rfl rfl hR.symm
      | true =>
        rw [show valA (cs.getD i nilA) = true from hv, Bool.true_and] at hF
        repeat' (first
         | (with_reducible first | refine t_seq fun K => ?_ | refine t_block ?_ | refine t_scope ?_ | refine t_label ?_ | refine t_skip ?_ | refine t_exit ?_ | refine t_ret ?_ | refine t_k ?_ | refine t_gF ?_ | exact kp_nil | exact Kp.refl _ | exact kp_to | refine kp_cons ?_ | refine kp_arr ?_ | refine kp_app ?_ | refine t_p ?_ | refine t_br (fun hc => ?_) fun hc => ?_)
         | ((with_reducible first | refine t_kE (t_openE ?_) | refine t_kD (t_openD ?_) | refine t_kE ?_ | refine t_kD ?_ | refine t_gS ?_ | refine t_kL ?_ | refine t_kLF ?_ ?_ | refine t_region fun K => ?_ | refine t_cond fun A B => ?_ | refine t_drawE (id := 11) (fun _ => true) [(0, true), (1, true), (2, true), (3, true), (5, true), (6, true), (7, true), (8, true), (4, false), (9, false), (10, true), (11, true)] (by kernel_rfl) fun K => ?_ | refine t_drawE (id := 21) (fun i => i == 1) [(0, true), (1, true), (2, true), (4, true), (5, true), (6, true), (7, true), (3, false), (8, false), (9, true), (10, false)] (by kernel_rfl) fun K => ?_ | refine t_draw (by kernel_rfl) fun K => ?_); (try (first | refine t_hideE fun KL => ?_ | refine t_hideD fun KL => ?_)); simp only [go_sem, geff, kp40, g3, hv, Int.toNat_natCast, con42_f, con43_f, con60_f, con72_f, con73_f, con74_f, con75_f, con60_c, arrs_length, arrV_def', arrOf_agg, slK_sl, strs_length, ils_length, strs_append1, ils_app])
         | ((with_reducible refine kp_skip ?_ ?_); rfl) | simp only [thenQ, blockQ, scopeQ, Nat.reduceEqDiff, reduceIte] | (with_reducible first | refine And.intro ?_ ?_ | intro vr))
        all_goals try (first | (with_reducible assumption) | (intros; (try simp only [Bool.and_eq_true, Bool.or_eq_true, Bool.or_eq_false_iff, Bool.not_eq_true', Bool.not_eq_false', decide_eq_true_eq, decide_eq_false_iff_not, beq_iff_eq, beq_eq_false_iff_ne, bne_iff_ne, bne_eq_false_iff_eq, ne_eq, inI64, List.length_append] at *) <;> omega))
        simp only [← elT_succ hc, ← dmT_succ hc]
        refine ⟨⟨⟨i + 1, v + 1, u + 1⟩, by simp only; omega, hF⟩, by first | (simp only; omega) | omega, ?_⟩
        simp only [updL_nil, updL_cons, delF_top, delF_upd, Nat.reduceEqDiff, reduceIte]
        refine le_backD (by first | rfl | (simp only [go_sem]; try rfl)) (by first | exact Nat.zero_le _ | simp) (by first | rfl | simp [lowO, low_lit, low_sl, low_ref, low_arr, low_fnV]) ?_ ?_
        · repeat' (first | exact low_top | (refine low_upd rfl ?_))
        repeat' (first | exact leF_top _ | exact (fun _ => LeR.refl _) | (with_reducible refine leF_sl ?_ ?_) | (refine leF_upd ?_ ?_))
        all_goals (first | exact LeR.top _ | exact LeR.refl _ | (refine LeR.of_eq ?_; (try simp only [go_sem]); try rfl) | ((try simp only [go_sem]); try rfl))
    · have hie : i = cs.length := by omega
      rw [hie, List.drop_eq_nil_of_le (by omega), List.all_nil] at hF
      rw [if_neg (by rw [← hF]; simp)] at hR
      have g3 : decide ((cs.length : Int) < (cs.length : Int)) = false := decide_eq_false (by omega)
      unfold applyT at hR
      have hv : ∀ a ∈ cs, ofE a = 0 := fun a ha => by
        rw [← hF, List.all_eq_true] at hA
        exact beq_iff_eq.1 (hA a ha)
      have hcl := hcl hv
      cases okk with
      | false =>
        rw [if_pos rfl] at hR
        repeat' (first
         | (with_reducible first | refine t_seq fun K => ?_ | refine t_block ?_ | refine t_scope ?_ | refine t_label ?_ | refine t_skip ?_ | refine t_exit ?_ | refine t_ret ?_ | refine t_k ?_ | refine t_gF ?_ | exact kp_nil | exact Kp.refl _ | exact kp_to | refine kp_cons ?_ | refine kp_arr ?_ | refine kp_app ?_ | refine t_p ?_ | refine t_br (fun hc => ?_) fun hc => ?_)
         | ((with_reducible first | refine t_kE (t_openE ?_) | refine t_kD (t_openD ?_) | refine t_kE ?_ | refine t_kD ?_ | refine t_gS ?_ | refine t_kL ?_ | refine t_kLF ?_ ?_ | refine t_region fun K => ?_ | refine t_cond fun A B => ?_ | refine t_drawE (id := 11) (fun _ => true) [(0, true), (1, true), (2, true), (3, true), (5, true), (6, true), (7, true), (8, true), (4, false), (9, false), (10, true), (11, true)] (by kernel_rfl) fun K => ?_ | refine t_drawE (id := 21) (fun i => i == 1) [(0, true), (1, true), (2, true), (4, true), (5, true), (6, true), (7, true), (3, false), (8, false), (9, true), (10, false)] (by kernel_rfl) fun K => ?_ | refine t_draw (by kernel_rfl) fun K => ?_); (try (first | refine t_hideE fun KL => ?_ | refine t_hideD fun KL => ?_)); simp only [go_sem, geff, kp40, hie, g3, hr, Int.toNat_natCast, con42_f, con43_f, con60_f, con72_f, con73_f, con74_f, con75_f, con42_c, slS_sl, elT_all, dmT_all, sbV_def])
         | ((with_reducible refine kp_skip ?_ ?_); rfl) | simp only [thenQ, blockQ, scopeQ, Nat.reduceEqDiff, reduceIte] | (with_reducible first | refine And.intro ?_ ?_ | intro vr))
        all_goals try (first | (with_reducible assumption) | (intros; (try simp only [Bool.and_eq_true, Bool.or_eq_true, Bool.or_eq_false_iff, Bool.not_eq_true', Bool.not_eq_false', decide_eq_true_eq, decide_eq_false_iff_not, beq_iff_eq, beq_eq_false_iff_ne, bne_iff_ne, bne_eq_false_iff_eq, ne_eq, inI64, List.length_append] at *) <;> omega))
        all_goals ((first | refine end_retE ?_ | refine end_normE ?_); simp only [fin, go_sem])
        exact app_of rfl rfl hR.symm
      | true =>
        rw [if_neg (by simp)] at hR
        by_cases hde : de = 0
        · subst hde
          rw [if_neg (by simp)] at hR
          have hcl := hcl rfl
          cases hcl with
          | iota n q1 hd hn =>
            subst hd
            have q1' : eqS op ⟨#[105, 111, 116, 97]⟩ = true := q1
            unfold dataS at hR
            rw [q1, if_pos rfl] at hR
            simp only [List.getD_cons_zero] at hR
            repeat' (first
             | (with_reducible first | refine t_seq fun K => ?_ | refine t_block ?_ | refine t_scope ?_ | refine t_label ?_ | refine t_skip ?_ | refine t_exit ?_ | refine t_ret ?_ | refine t_k ?_ | refine t_gF ?_ | exact kp_nil | exact Kp.refl _ | exact kp_to | refine kp_cons ?_ | refine kp_arr ?_ | refine kp_app ?_ | refine t_p ?_ | refine t_br (fun hc => ?_) fun hc => ?_)
             | ((with_reducible first | refine t_kE (t_openE ?_) | refine t_kD (t_openD ?_) | refine t_kE ?_ | refine t_kD ?_ | refine t_gS ?_ | refine t_kL ?_ | refine t_kLF ?_ ?_ | refine t_region fun K => ?_ | refine t_cond fun A B => ?_ | refine t_drawE (id := 11) (fun _ => true) [(0, true), (1, true), (2, true), (3, true), (5, true), (6, true), (7, true), (8, true), (4, false), (9, false), (10, true), (11, true)] (by kernel_rfl) fun K => ?_ | refine t_drawE (id := 21) (fun i => i == 1) [(0, true), (1, true), (2, true), (4, true), (5, true), (6, true), (7, true), (3, false), (8, false), (9, true), (10, false)] (by kernel_rfl) fun K => ?_ | refine t_draw (by kernel_rfl) fun K => ?_); (try (first | refine t_hideE fun KL => ?_ | refine t_hideD fun KL => ?_)); simp only [go_sem, geff, kp40, hie, g3, hr, hD, q1', Int.toNat_natCast, con42_f, con43_f, con60_f, con72_f, con73_f, con74_f, con75_f, con42_c, con43_c, slS_sl, slK_sl, ilsOf_sl, elT_all, dmT_all, sbV_def, dV_def, List.getD_cons_zero])
             | ((with_reducible refine kp_skip ?_ ?_); rfl) | simp only [thenQ, blockQ, scopeQ, Nat.reduceEqDiff, reduceIte] | (with_reducible first | refine And.intro ?_ ?_ | intro vr))
            all_goals try (first | (with_reducible assumption) | (intros; (try simp only [Bool.and_eq_true, Bool.or_eq_true, Bool.or_eq_false_iff, Bool.not_eq_true', Bool.not_eq_false', decide_eq_true_eq, decide_eq_false_iff_not, beq_iff_eq, beq_eq_false_iff_ne, bne_iff_ne, bne_eq_false_iff_eq, ne_eq, inI64, List.length_append] at *) <;> omega))
            have hn1 := hn.1
            have hn2 := hn.2
            refine t_loopF (ι := { i : Gat // (i.i : Int) ≤ n }) (fun i => [(97, .lit (.int .i64 i.1.i))]) (fun i => [.box 33 [.lit (.string ByteArray.empty), .sl true 1 [], .sl true 1 []], .box 92 [.lit (.string s), .lit (.bool b), .sl false 1 (ints .i64 rk), fnV o, fnV p], .arr 9 1 (strs (cs.map (·.e))) v false, .arr 23 1 (ils (cs.map (·.d))) u true, .box 33 [.lit (.string el), .sl false 1 (ints .i64 [n]), .arr 5 i.1.v], .arr 3 1 (ints .i64 (rangeS i.1.i)) i.1.v false]) (fun i => n.toNat - i.1.i) ⟨⟨0, 0⟩, by simpa using hn1⟩ ?_ ?_
            · refine (le_nilB 4 2 3 1 (cs := [.lit (.string el), .sl false 1 (ints .i64 [n]), .sl true 1 []]) rfl (by simp) nil_sl).trans ?_
              simp only [updL_nil, updL_cons, delF_top, delF_upd, Nat.reduceEqDiff, reduceIte]
              simp only [rangeS_zero, ints_nil]
              refine Le.frameS (by first | rfl | (simp only [go_sem]; try rfl)) ?_
              repeat' (first | exact leF_top _ | exact (fun _ => LeR.refl _) | (with_reducible refine leF_sl ?_ ?_) | (refine leF_upd ?_ ?_))
              all_goals (first | exact LeR.top _ | exact LeR.refl _ | (refine LeR.of_eq ?_; (try simp only [go_sem]); try rfl) | ((try simp only [go_sem]); try rfl))
            rintro ⟨⟨j, w⟩, hj⟩ K1
            simp only at hj
            by_cases hc2 : (j : Int) < n
            · have g4 : decide ((j : Int) < n) = true := decide_eq_true hc2
              have hb := rangeS_len j
              repeat' (first
               | (with_reducible first | refine t_seq fun K => ?_ | refine t_block ?_ | refine t_scope ?_ | refine t_label ?_ | refine t_skip ?_ | refine t_exit ?_ | refine t_ret ?_ | refine t_k ?_ | refine t_gF ?_ | exact kp_nil | exact Kp.refl _ | exact kp_to | refine kp_cons ?_ | refine kp_arr ?_ | refine kp_app ?_ | refine t_p ?_ | refine t_br (fun hc => ?_) fun hc => ?_)
               | ((with_reducible first | refine t_kE (t_openE ?_) | refine t_kD (t_openD ?_) | refine t_kE ?_ | refine t_kD ?_ | refine t_gS ?_ | refine t_kL ?_ | refine t_kLF ?_ ?_ | refine t_region fun K => ?_ | refine t_cond fun A B => ?_ | refine t_drawE (id := 11) (fun _ => true) [(0, true), (1, true), (2, true), (3, true), (5, true), (6, true), (7, true), (8, true), (4, false), (9, false), (10, true), (11, true)] (by kernel_rfl) fun K => ?_ | refine t_drawE (id := 21) (fun i => i == 1) [(0, true), (1, true), (2, true), (4, true), (5, true), (6, true), (7, true), (3, false), (8, false), (9, true), (10, false)] (by kernel_rfl) fun K => ?_ | refine t_draw (by kernel_rfl) fun K => ?_); (try (first | refine t_hideE fun KL => ?_ | refine t_hideD fun KL => ?_)); simp only [go_sem, geff, kp40, g4, Int.toNat_natCast, con42_f, con43_f, con60_f, con72_f, con73_f, con74_f, con75_f])
               | ((with_reducible refine kp_skip ?_ ?_); rfl) | simp only [thenQ, blockQ, scopeQ, Nat.reduceEqDiff, reduceIte] | (with_reducible first | refine And.intro ?_ ?_ | intro vr))
              all_goals try (first | (with_reducible assumption) | (intros; (try simp only [Bool.and_eq_true, Bool.or_eq_true, Bool.or_eq_false_iff, Bool.not_eq_true', Bool.not_eq_false', decide_eq_true_eq, decide_eq_false_iff_not, beq_iff_eq, beq_eq_false_iff_ne, bne_iff_ne, bne_eq_false_iff_eq, ne_eq, inI64, List.length_append] at *) <;> omega))
              simp only [← rangeS_succ]
              refine ⟨⟨⟨j + 1, w + 1⟩, by simp only; omega⟩, by first | (simp only; omega) | omega, ?_⟩
              simp only [updL_nil, updL_cons, delF_top, delF_upd, Nat.reduceEqDiff, reduceIte]
              refine Le.frameS (by first | rfl | (simp only [go_sem]; try rfl)) ?_
              repeat' (first | exact leF_top _ | exact (fun _ => LeR.refl _) | (with_reducible refine leF_sl ?_ ?_) | (refine leF_upd ?_ ?_))
              all_goals (first | exact LeR.top _ | exact LeR.refl _ | (refine LeR.of_eq ?_; (try simp only [go_sem]); try rfl) | ((try simp only [go_sem]); try rfl))
            · have hje : n = (j : Int) := by omega
              have g4 : decide ((j : Int) < (j : Int)) = false := decide_eq_false (by omega)
              rw [hje] at hR
              repeat' (first
               | (with_reducible first | refine t_seq fun K => ?_ | refine t_block ?_ | refine t_scope ?_ | refine t_label ?_ | refine t_skip ?_ | refine t_exit ?_ | refine t_ret ?_ | refine t_k ?_ | refine t_gF ?_ | exact kp_nil | exact Kp.refl _ | exact kp_to | refine kp_cons ?_ | refine kp_arr ?_ | refine kp_app ?_ | refine t_p ?_ | refine t_br (fun hc => ?_) fun hc => ?_)
               | ((with_reducible first | refine t_kE (t_openE ?_) | refine t_kD (t_openD ?_) | refine t_kE ?_ | refine t_kD ?_ | refine t_gS ?_ | refine t_kL ?_ | refine t_kLF ?_ ?_ | refine t_region fun K => ?_ | refine t_cond fun A B => ?_ | refine t_drawE (id := 11) (fun _ => true) [(0, true), (1, true), (2, true), (3, true), (5, true), (6, true), (7, true), (8, true), (4, false), (9, false), (10, true), (11, true)] (by kernel_rfl) fun K => ?_ | refine t_drawE (id := 21) (fun i => i == 1) [(0, true), (1, true), (2, true), (4, true), (5, true), (6, true), (7, true), (3, false), (8, false), (9, true), (10, false)] (by kernel_rfl) fun K => ?_ | refine t_draw (by kernel_rfl) fun K => ?_); (try (first | refine t_hideE fun KL => ?_ | refine t_hideD fun KL => ?_)); simp only [go_sem, geff, kp40, hje, g4, Int.toNat_natCast, con42_f, con43_f, con60_f, con72_f, con73_f, con74_f, con75_f])
               | ((with_reducible refine kp_skip ?_ ?_); rfl) | simp only [thenQ, blockQ, scopeQ, Nat.reduceEqDiff, reduceIte] | (with_reducible first | refine And.intro ?_ ?_ | intro vr))
              all_goals try (first | (with_reducible assumption) | (intros; (try simp only [Bool.and_eq_true, Bool.or_eq_true, Bool.or_eq_false_iff, Bool.not_eq_true', Bool.not_eq_false', decide_eq_true_eq, decide_eq_false_iff_not, beq_iff_eq, beq_eq_false_iff_ne, bne_iff_ne, bne_eq_false_iff_eq, ne_eq, inI64, List.length_append] at *) <;> omega))
              all_goals ((first | refine end_retE ?_ | refine end_normE ?_); simp only [fin, go_sem])
              exact app_of (by first | exact slK_sl | rfl) slK_sl hR.symm
          | join q1 q2 hl =>
            have q1' : eqS op ⟨#[105, 111, 116, 97]⟩ = false := q1
            unfold dataS at hR
            rw [q1, if_neg (by simp), if_pos q2] at hR
            have xsT_le := fun (l : List Arr) (i : Nat) => Nat.le_trans (xsT_le l i) (show (l.flatMap (·.x)).length ≤ (l.flatMap (·.x)).length from Nat.le_refl _)
            rcases Bool.eq_false_or_eq_true (eqS op n_append) with qa | qa
            · have qa' : eqS op ⟨#[97, 112, 112, 101, 110, 100]⟩ = true := qa
              repeat' (first
               | (with_reducible first | refine t_seq fun K => ?_ | refine t_block ?_ | refine t_scope ?_ | refine t_label ?_ | refine t_skip ?_ | refine t_exit ?_ | refine t_ret ?_ | refine t_k ?_ | refine t_gF ?_ | exact kp_nil | exact Kp.refl _ | exact kp_to | refine kp_cons ?_ | refine kp_arr ?_ | refine kp_app ?_ | refine t_p ?_ | refine t_br (fun hc => ?_) fun hc => ?_)
               | ((with_reducible first | refine t_kE (t_openE ?_) | refine t_kD (t_openD ?_) | refine t_kE ?_ | refine t_kD ?_ | refine t_gS ?_ | refine t_kL ?_ | refine t_kLF ?_ ?_ | refine t_region fun K => ?_ | refine t_cond fun A B => ?_ | refine t_drawE (id := 11) (fun _ => true) [(0, true), (1, true), (2, true), (3, true), (5, true), (6, true), (7, true), (8, true), (4, false), (9, false), (10, true), (11, true)] (by kernel_rfl) fun K => ?_ | refine t_drawE (id := 21) (fun i => i == 1) [(0, true), (1, true), (2, true), (4, true), (5, true), (6, true), (7, true), (3, false), (8, false), (9, true), (10, false)] (by kernel_rfl) fun K => ?_ | refine t_draw (by kernel_rfl) fun K => ?_); (try (first | refine t_hideE fun KL => ?_ | refine t_hideD fun KL => ?_)); simp only [go_sem, geff, kp40, qa', q1', hie, g3, hr, hD, arrs_length, Int.toNat_natCast, con42_f, con43_f, con60_f, con72_f, con73_f, con74_f, con75_f, con42_c, con43_c, slS_sl, slK_sl, ilsOf_sl, elT_all, dmT_all, sbV_def, dV_def, List.getD_cons_zero])
               | ((with_reducible refine kp_skip ?_ ?_); rfl) | simp only [thenQ, blockQ, scopeQ, Nat.reduceEqDiff, reduceIte] | (with_reducible first | refine And.intro ?_ ?_ | intro vr))
              all_goals try (first | (with_reducible assumption) | (intros; (try simp only [Bool.and_eq_true, Bool.or_eq_true, Bool.or_eq_false_iff, Bool.not_eq_true', Bool.not_eq_false', decide_eq_true_eq, decide_eq_false_iff_not, beq_iff_eq, beq_eq_false_iff_ne, bne_iff_ne, bne_eq_false_iff_eq, ne_eq, inI64, List.length_append] at *) <;> omega))
              refine t_loopF (ι := { i : Gat // i.i ≤ cs.length }) (fun i => [(112, .lit (.int .i64 i.1.i))]) (fun i => [.box 33 [.lit (.string ByteArray.empty), .sl true 1 [], .sl true 1 []], .box 92 [.lit (.string s), .lit (.bool b), .sl false 1 (ints .i64 rk), fnV o, fnV p], .arr 9 1 (strs (cs.map (·.e))) v false, .arr 23 1 (ils (cs.map (·.d))) u true, .box 33 [.lit (.string el), .sl false 1 (ints .i64 d), .arr 5 i.1.v], .arr 3 1 (ints .i64 (xsT cs i.1.i)) i.1.v false]) (fun i => cs.length - i.1.i) ⟨⟨0, 0⟩, by simp⟩ ?_ ?_
              · refine (le_nilB 4 2 3 1 (cs := [.lit (.string el), .sl false 1 (ints .i64 d), .sl true 1 []]) rfl (by simp) nil_sl).trans ?_
                simp only [updL_nil, updL_cons, delF_top, delF_upd, Nat.reduceEqDiff, reduceIte]
                simp only [xsT_zero, ints_nil]
                refine Le.frameS (by first | rfl | (simp only [go_sem]; try rfl)) ?_
                repeat' (first | exact leF_top _ | exact (fun _ => LeR.refl _) | (with_reducible refine leF_sl ?_ ?_) | (refine leF_upd ?_ ?_))
                all_goals (first | exact LeR.top _ | exact LeR.refl _ | (refine LeR.of_eq ?_; (try simp only [go_sem]); try rfl) | ((try simp only [go_sem]); try rfl))
              rintro ⟨⟨j, w⟩, hj⟩ K1
              simp only at hj
              rcases Nat.lt_or_ge j cs.length with hc2 | hc2
              · have g4 : decide ((j : Int) < (cs.length : Int)) = true := decide_eq_true (by omega)
                have hb := xsT_le cs j
                have hb2 := xsT_le cs (j + 1)
                rw [xsT_succ hc2, List.length_append] at hb2
                repeat' (first
                 | (with_reducible first | refine t_seq fun K => ?_ | refine t_block ?_ | refine t_scope ?_ | refine t_label ?_ | refine t_skip ?_ | refine t_exit ?_ | refine t_ret ?_ | refine t_k ?_ | refine t_gF ?_ | exact kp_nil | exact Kp.refl _ | exact kp_to | refine kp_cons ?_ | refine kp_arr ?_ | refine kp_app ?_ | refine t_p ?_ | refine t_br (fun hc => ?_) fun hc => ?_)
                 | ((with_reducible first | refine t_kE (t_openE ?_) | refine t_kD (t_openD ?_) | refine t_kE ?_ | refine t_kD ?_ | refine t_gS ?_ | refine t_kL ?_ | refine t_kLF ?_ ?_ | refine t_region fun K => ?_ | refine t_cond fun A B => ?_ | refine t_drawE (id := 11) (fun _ => true) [(0, true), (1, true), (2, true), (3, true), (5, true), (6, true), (7, true), (8, true), (4, false), (9, false), (10, true), (11, true)] (by kernel_rfl) fun K => ?_ | refine t_drawE (id := 21) (fun i => i == 1) [(0, true), (1, true), (2, true), (4, true), (5, true), (6, true), (7, true), (3, false), (8, false), (9, true), (10, false)] (by kernel_rfl) fun K => ?_ | refine t_draw (by kernel_rfl) fun K => ?_); (try (first | refine t_hideE fun KL => ?_ | refine t_hideD fun KL => ?_)); simp only [go_sem, geff, kp40, g4, Int.toNat_natCast, con42_f, con43_f, con60_f, con72_f, con73_f, con74_f, con75_f, arrs_length, arrV_def'])
                 | ((with_reducible refine kp_skip ?_ ?_); rfl) | simp only [thenQ, blockQ, scopeQ, Nat.reduceEqDiff, reduceIte] | (with_reducible first | refine And.intro ?_ ?_ | intro vr))
                all_goals try (first | (with_reducible assumption) | (intros; (try simp only [Bool.and_eq_true, Bool.or_eq_true, Bool.or_eq_false_iff, Bool.not_eq_true', Bool.not_eq_false', decide_eq_true_eq, decide_eq_false_iff_not, beq_iff_eq, beq_eq_false_iff_ne, bne_iff_ne, bne_eq_false_iff_eq, ne_eq, inI64, List.length_append] at *) <;> omega))
                simp only [ints_append, ← xsT_succ hc2]
                refine ⟨⟨⟨j + 1, w + 1⟩, by simp only; omega⟩, by first | (simp only; omega) | omega, ?_⟩
                simp only [updL_nil, updL_cons, delF_top, delF_upd, Nat.reduceEqDiff, reduceIte]
                refine le_backD (by first | rfl | (simp only [go_sem]; try rfl)) (by first | exact Nat.zero_le _ | simp) (by first | rfl | simp [lowO, low_lit, low_sl, low_ref, low_arr, low_fnV]) ?_ ?_
                · repeat' (first | exact low_top | (refine low_upd rfl ?_))
                repeat' (first | exact leF_top _ | exact (fun _ => LeR.refl _) | (with_reducible refine leF_sl ?_ ?_) | (refine leF_upd ?_ ?_))
                all_goals (first | exact LeR.top _ | exact LeR.refl _ | (refine LeR.of_eq ?_; (try simp only [go_sem]); try rfl) | ((try simp only [go_sem]); try rfl))
              · have hje : j = cs.length := by omega
                have g4 : decide ((cs.length : Int) < (cs.length : Int)) = false := decide_eq_false (by omega)
                repeat' (first
                 | (with_reducible first | refine t_seq fun K => ?_ | refine t_block ?_ | refine t_scope ?_ | refine t_label ?_ | refine t_skip ?_ | refine t_exit ?_ | refine t_ret ?_ | refine t_k ?_ | refine t_gF ?_ | exact kp_nil | exact Kp.refl _ | exact kp_to | refine kp_cons ?_ | refine kp_arr ?_ | refine kp_app ?_ | refine t_p ?_ | refine t_br (fun hc => ?_) fun hc => ?_)
                 | ((with_reducible first | refine t_kE (t_openE ?_) | refine t_kD (t_openD ?_) | refine t_kE ?_ | refine t_kD ?_ | refine t_gS ?_ | refine t_kL ?_ | refine t_kLF ?_ ?_ | refine t_region fun K => ?_ | refine t_cond fun A B => ?_ | refine t_drawE (id := 11) (fun _ => true) [(0, true), (1, true), (2, true), (3, true), (5, true), (6, true), (7, true), (8, true), (4, false), (9, false), (10, true), (11, true)] (by kernel_rfl) fun K => ?_ | refine t_drawE (id := 21) (fun i => i == 1) [(0, true), (1, true), (2, true), (4, true), (5, true), (6, true), (7, true), (3, false), (8, false), (9, true), (10, false)] (by kernel_rfl) fun K => ?_ | refine t_draw (by kernel_rfl) fun K => ?_); (try (first | refine t_hideE fun KL => ?_ | refine t_hideD fun KL => ?_)); simp only [go_sem, geff, kp40, hje, g4, Int.toNat_natCast, con42_f, con43_f, con60_f, con72_f, con73_f, con74_f, con75_f])
                 | ((with_reducible refine kp_skip ?_ ?_); rfl) | simp only [thenQ, blockQ, scopeQ, Nat.reduceEqDiff, reduceIte] | (with_reducible first | refine And.intro ?_ ?_ | intro vr))
                all_goals try (first | (with_reducible assumption) | (intros; (try simp only [Bool.and_eq_true, Bool.or_eq_true, Bool.or_eq_false_iff, Bool.not_eq_true', Bool.not_eq_false', decide_eq_true_eq, decide_eq_false_iff_not, beq_iff_eq, beq_eq_false_iff_ne, bne_iff_ne, bne_eq_false_iff_eq, ne_eq, inI64, List.length_append] at *) <;> omega))
                all_goals ((first | refine end_retE ?_ | refine end_normE ?_); simp only [fin, go_sem])
                rw [xsT_all]
                exact app_of (by first | exact slK_sl | rfl) slK_sl hR.symm
            · have qa' : eqS op ⟨#[97, 112, 112, 101, 110, 100]⟩ = false := qa
              have qp' : eqS op ⟨#[112, 97, 99, 107]⟩ = true := by rw [qa, Bool.false_or] at q2; exact q2
              repeat' (first
               | (with_reducible first | refine t_seq fun K => ?_ | refine t_block ?_ | refine t_scope ?_ | refine t_label ?_ | refine t_skip ?_ | refine t_exit ?_ | refine t_ret ?_ | refine t_k ?_ | refine t_gF ?_ | exact kp_nil | exact Kp.refl _ | exact kp_to | refine kp_cons ?_ | refine kp_arr ?_ | refine kp_app ?_ | refine t_p ?_ | refine t_br (fun hc => ?_) fun hc => ?_)
               | ((with_reducible first | refine t_kE (t_openE ?_) | refine t_kD (t_openD ?_) | refine t_kE ?_ | refine t_kD ?_ | refine t_gS ?_ | refine t_kL ?_ | refine t_kLF ?_ ?_ | refine t_region fun K => ?_ | refine t_cond fun A B => ?_ | refine t_drawE (id := 11) (fun _ => true) [(0, true), (1, true), (2, true), (3, true), (5, true), (6, true), (7, true), (8, true), (4, false), (9, false), (10, true), (11, true)] (by kernel_rfl) fun K => ?_ | refine t_drawE (id := 21) (fun i => i == 1) [(0, true), (1, true), (2, true), (4, true), (5, true), (6, true), (7, true), (3, false), (8, false), (9, true), (10, false)] (by kernel_rfl) fun K => ?_ | refine t_draw (by kernel_rfl) fun K => ?_); (try (first | refine t_hideE fun KL => ?_ | refine t_hideD fun KL => ?_)); simp only [go_sem, geff, kp40, qa', qp', q1', hie, g3, hr, hD, arrs_length, Int.toNat_natCast, con42_f, con43_f, con60_f, con72_f, con73_f, con74_f, con75_f, con42_c, con43_c, slS_sl, slK_sl, ilsOf_sl, elT_all, dmT_all, sbV_def, dV_def, List.getD_cons_zero])
               | ((with_reducible refine kp_skip ?_ ?_); rfl) | simp only [thenQ, blockQ, scopeQ, Nat.reduceEqDiff, reduceIte] | (with_reducible first | refine And.intro ?_ ?_ | intro vr))
              all_goals try (first | (with_reducible assumption) | (intros; (try simp only [Bool.and_eq_true, Bool.or_eq_true, Bool.or_eq_false_iff, Bool.not_eq_true', Bool.not_eq_false', decide_eq_true_eq, decide_eq_false_iff_not, beq_iff_eq, beq_eq_false_iff_ne, bne_iff_ne, bne_eq_false_iff_eq, ne_eq, inI64, List.length_append] at *) <;> omega))
              refine t_loopF (ι := { i : Gat // i.i ≤ cs.length }) (fun i => [(112, .lit (.int .i64 i.1.i))]) (fun i => [.box 33 [.lit (.string ByteArray.empty), .sl true 1 [], .sl true 1 []], .box 92 [.lit (.string s), .lit (.bool b), .sl false 1 (ints .i64 rk), fnV o, fnV p], .arr 9 1 (strs (cs.map (·.e))) v false, .arr 23 1 (ils (cs.map (·.d))) u true, .box 33 [.lit (.string el), .sl false 1 (ints .i64 d), .arr 5 i.1.v], .arr 3 1 (ints .i64 (xsT cs i.1.i)) i.1.v false]) (fun i => cs.length - i.1.i) ⟨⟨0, 0⟩, by simp⟩ ?_ ?_
              · refine (le_nilB 4 2 3 1 (cs := [.lit (.string el), .sl false 1 (ints .i64 d), .sl true 1 []]) rfl (by simp) nil_sl).trans ?_
                simp only [updL_nil, updL_cons, delF_top, delF_upd, Nat.reduceEqDiff, reduceIte]
                simp only [xsT_zero, ints_nil]
                refine Le.frameS (by first | rfl | (simp only [go_sem]; try rfl)) ?_
                repeat' (first | exact leF_top _ | exact (fun _ => LeR.refl _) | (with_reducible refine leF_sl ?_ ?_) | (refine leF_upd ?_ ?_))
                all_goals (first | exact LeR.top _ | exact LeR.refl _ | (refine LeR.of_eq ?_; (try simp only [go_sem]); try rfl) | ((try simp only [go_sem]); try rfl))
              rintro ⟨⟨j, w⟩, hj⟩ K1
              simp only at hj
              rcases Nat.lt_or_ge j cs.length with hc2 | hc2
              · have g4 : decide ((j : Int) < (cs.length : Int)) = true := decide_eq_true (by omega)
                have hb := xsT_le cs j
                have hb2 := xsT_le cs (j + 1)
                rw [xsT_succ hc2, List.length_append] at hb2
                repeat' (first
                 | (with_reducible first | refine t_seq fun K => ?_ | refine t_block ?_ | refine t_scope ?_ | refine t_label ?_ | refine t_skip ?_ | refine t_exit ?_ | refine t_ret ?_ | refine t_k ?_ | refine t_gF ?_ | exact kp_nil | exact Kp.refl _ | exact kp_to | refine kp_cons ?_ | refine kp_arr ?_ | refine kp_app ?_ | refine t_p ?_ | refine t_br (fun hc => ?_) fun hc => ?_)
                 | ((with_reducible first | refine t_kE (t_openE ?_) | refine t_kD (t_openD ?_) | refine t_kE ?_ | refine t_kD ?_ | refine t_gS ?_ | refine t_kL ?_ | refine t_kLF ?_ ?_ | refine t_region fun K => ?_ | refine t_cond fun A B => ?_ | refine t_drawE (id := 11) (fun _ => true) [(0, true), (1, true), (2, true), (3, true), (5, true), (6, true), (7, true), (8, true), (4, false), (9, false), (10, true), (11, true)] (by kernel_rfl) fun K => ?_ | refine t_drawE (id := 21) (fun i => i == 1) [(0, true), (1, true), (2, true), (4, true), (5, true), (6, true), (7, true), (3, false), (8, false), (9, true), (10, false)] (by kernel_rfl) fun K => ?_ | refine t_draw (by kernel_rfl) fun K => ?_); (try (first | refine t_hideE fun KL => ?_ | refine t_hideD fun KL => ?_)); simp only [go_sem, geff, kp40, g4, Int.toNat_natCast, con42_f, con43_f, con60_f, con72_f, con73_f, con74_f, con75_f, arrs_length, arrV_def'])
                 | ((with_reducible refine kp_skip ?_ ?_); rfl) | simp only [thenQ, blockQ, scopeQ, Nat.reduceEqDiff, reduceIte] | (with_reducible first | refine And.intro ?_ ?_ | intro vr))
                all_goals try (first | (with_reducible assumption) | (intros; (try simp only [Bool.and_eq_true, Bool.or_eq_true, Bool.or_eq_false_iff, Bool.not_eq_true', Bool.not_eq_false', decide_eq_true_eq, decide_eq_false_iff_not, beq_iff_eq, beq_eq_false_iff_ne, bne_iff_ne, bne_eq_false_iff_eq, ne_eq, inI64, List.length_append] at *) <;> omega))
                simp only [ints_append, ← xsT_succ hc2]
                refine ⟨⟨⟨j + 1, w + 1⟩, by simp only; omega⟩, by first | (simp only; omega) | omega, ?_⟩
                simp only [updL_nil, updL_cons, delF_top, delF_upd, Nat.reduceEqDiff, reduceIte]
                refine le_backD (by first | rfl | (simp only [go_sem]; try rfl)) (by first | exact Nat.zero_le _ | simp) (by first | rfl | simp [lowO, low_lit, low_sl, low_ref, low_arr, low_fnV]) ?_ ?_
                · repeat' (first | exact low_top | (refine low_upd rfl ?_))
                repeat' (first | exact leF_top _ | exact (fun _ => LeR.refl _) | (with_reducible refine leF_sl ?_ ?_) | (refine leF_upd ?_ ?_))
                all_goals (first | exact LeR.top _ | exact LeR.refl _ | (refine LeR.of_eq ?_; (try simp only [go_sem]); try rfl) | ((try simp only [go_sem]); try rfl))
              · have hje : j = cs.length := by omega
                have g4 : decide ((cs.length : Int) < (cs.length : Int)) = false := decide_eq_false (by omega)
                repeat' (first
                 | (with_reducible first | refine t_seq fun K => ?_ | refine t_block ?_ | refine t_scope ?_ | refine t_label ?_ | refine t_skip ?_ | refine t_exit ?_ | refine t_ret ?_ | refine t_k ?_ | refine t_gF ?_ | exact kp_nil | exact Kp.refl _ | exact kp_to | refine kp_cons ?_ | refine kp_arr ?_ | refine kp_app ?_ | refine t_p ?_ | refine t_br (fun hc => ?_) fun hc => ?_)
                 | ((with_reducible first | refine t_kE (t_openE ?_) | refine t_kD (t_openD ?_) | refine t_kE ?_ | refine t_kD ?_ | refine t_gS ?_ | refine t_kL ?_ | refine t_kLF ?_ ?_ | refine t_region fun K => ?_ | refine t_cond fun A B => ?_ | refine t_drawE (id := 11) (fun _ => true) [(0, true), (1, true), (2, true), (3, true), (5, true), (6, true), (7, true), (8, true), (4, false), (9, false), (10, true), (11, true)] (by kernel_rfl) fun K => ?_ | refine t_drawE (id := 21) (fun i => i == 1) [(0, true), (1, true), (2, true), (4, true), (5, true), (6, true), (7, true), (3, false), (8, false), (9, true), (10, false)] (by kernel_rfl) fun K => ?_ | refine t_draw (by kernel_rfl) fun K => ?_); (try (first | refine t_hideE fun KL => ?_ | refine t_hideD fun KL => ?_)); simp only [go_sem, geff, kp40, hje, g4, Int.toNat_natCast, con42_f, con43_f, con60_f, con72_f, con73_f, con74_f, con75_f])
                 | ((with_reducible refine kp_skip ?_ ?_); rfl) | simp only [thenQ, blockQ, scopeQ, Nat.reduceEqDiff, reduceIte] | (with_reducible first | refine And.intro ?_ ?_ | intro vr))
                all_goals try (first | (with_reducible assumption) | (intros; (try simp only [Bool.and_eq_true, Bool.or_eq_true, Bool.or_eq_false_iff, Bool.not_eq_true', Bool.not_eq_false', decide_eq_true_eq, decide_eq_false_iff_not, beq_iff_eq, beq_eq_false_iff_ne, bne_iff_ne, bne_eq_false_iff_eq, ne_eq, inI64, List.length_append] at *) <;> omega))
                all_goals ((first | refine end_retE ?_ | refine end_normE ?_); simp only [fin, go_sem])
                rw [xsT_all]
                exact app_of (by first | exact slK_sl | rfl) slK_sl hR.symm
          | pick q1 q2 q3 q4 hc2 hc3 hc1 hc0 =>
            have q1' : eqS op ⟨#[105, 111, 116, 97]⟩ = false := q1
            have q2' : eqS op ⟨#[97, 112, 112, 101, 110, 100]⟩ = false := q2
            have q3' : eqS op ⟨#[112, 97, 99, 107]⟩ = false := q3
            unfold dataS at hR
            rw [q1, if_neg (by simp), q2, q3, if_neg (by simp), if_pos q4] at hR
            generalize hch : checkedS op cs = ch at hR
            rcases Bool.eq_false_or_eq_true (eqS op n_index) with qa | qa
            · have qa' : eqS op ⟨#[105, 110, 100, 101, 120]⟩ = true := qa
              repeat' (first
               | (with_reducible first | refine t_seq fun K => ?_ | refine t_block ?_ | refine t_scope ?_ | refine t_label ?_ | refine t_skip ?_ | refine t_exit ?_ | refine t_ret ?_ | refine t_k ?_ | refine t_gF ?_ | exact kp_nil | exact Kp.refl _ | exact kp_to | refine kp_cons ?_ | refine kp_arr ?_ | refine kp_app ?_ | refine t_p ?_ | refine t_br (fun hc => ?_) fun hc => ?_)
               | ((with_reducible first | refine t_kE (t_openE ?_) | refine t_kD (t_openD ?_) | refine t_kE ?_ | refine t_kD ?_ | refine t_gS ?_ | refine t_kL ?_ | refine t_kLF ?_ ?_ | refine t_region fun K => ?_ | refine t_cond fun A B => ?_ | refine t_drawE (id := 11) (fun _ => true) [(0, true), (1, true), (2, true), (3, true), (5, true), (6, true), (7, true), (8, true), (4, false), (9, false), (10, true), (11, true)] (by kernel_rfl) fun K => ?_ | refine t_drawE (id := 21) (fun i => i == 1) [(0, true), (1, true), (2, true), (4, true), (5, true), (6, true), (7, true), (3, false), (8, false), (9, true), (10, false)] (by kernel_rfl) fun K => ?_ | refine t_draw (by kernel_rfl) fun K => ?_); (try (first | refine t_hideE fun KL => ?_ | refine t_hideD fun KL => ?_)); simp only [go_sem, geff, kp40, qa', q1', q2', q3', hch, con73_c, arrsOf_sl, ibV_def, hie, g3, hr, hD, arrs_length, Int.toNat_natCast, con42_f, con43_f, con60_f, con72_f, con73_f, con74_f, con75_f, con42_c, con43_c, slS_sl, slK_sl, ilsOf_sl, elT_all, dmT_all, sbV_def, dV_def, List.getD_cons_zero])
               | ((with_reducible refine kp_skip ?_ ?_); rfl) | simp only [thenQ, blockQ, scopeQ, Nat.reduceEqDiff, reduceIte] | (with_reducible first | refine And.intro ?_ ?_ | intro vr))
              all_goals try (first | exact (hc3 (by assumption)).1 | exact (hc3 (by assumption)).2)
              all_goals try (first | (with_reducible assumption) | (intros; (try simp only [Bool.and_eq_true, Bool.or_eq_true, Bool.or_eq_false_iff, Bool.not_eq_true', Bool.not_eq_false', decide_eq_true_eq, decide_eq_false_iff_not, beq_iff_eq, beq_eq_false_iff_ne, bne_iff_ne, bne_eq_false_iff_eq, ne_eq, inI64, List.length_append] at *) <;> omega))
              all_goals ((first | refine end_retE ?_ | refine end_normE ?_); simp only [fin, go_sem])
              exact app_of (by first | exact slK_sl | rfl) slK_sl hR.symm
            · have qa' : eqS op ⟨#[105, 110, 100, 101, 120]⟩ = false := qa
              have qp' : eqS op ⟨#[117, 112, 100, 97, 116, 101]⟩ = true := by unfold selS at q4; rw [qa, Bool.false_or] at q4; exact q4
              repeat' (first
               | (with_reducible first | refine t_seq fun K => ?_ | refine t_block ?_ | refine t_scope ?_ | refine t_label ?_ | refine t_skip ?_ | refine t_exit ?_ | refine t_ret ?_ | refine t_k ?_ | refine t_gF ?_ | exact kp_nil | exact Kp.refl _ | exact kp_to | refine kp_cons ?_ | refine kp_arr ?_ | refine kp_app ?_ | refine t_p ?_ | refine t_br (fun hc => ?_) fun hc => ?_)
               | ((with_reducible first | refine t_kE (t_openE ?_) | refine t_kD (t_openD ?_) | refine t_kE ?_ | refine t_kD ?_ | refine t_gS ?_ | refine t_kL ?_ | refine t_kLF ?_ ?_ | refine t_region fun K => ?_ | refine t_cond fun A B => ?_ | refine t_drawE (id := 11) (fun _ => true) [(0, true), (1, true), (2, true), (3, true), (5, true), (6, true), (7, true), (8, true), (4, false), (9, false), (10, true), (11, true)] (by kernel_rfl) fun K => ?_ | refine t_drawE (id := 21) (fun i => i == 1) [(0, true), (1, true), (2, true), (4, true), (5, true), (6, true), (7, true), (3, false), (8, false), (9, true), (10, false)] (by kernel_rfl) fun K => ?_ | refine t_draw (by kernel_rfl) fun K => ?_); (try (first | refine t_hideE fun KL => ?_ | refine t_hideD fun KL => ?_)); simp only [go_sem, geff, kp40, qa', qp', q1', q2', q3', hch, con73_c, arrsOf_sl, ibV_def, hie, g3, hr, hD, arrs_length, Int.toNat_natCast, con42_f, con43_f, con60_f, con72_f, con73_f, con74_f, con75_f, con42_c, con43_c, slS_sl, slK_sl, ilsOf_sl, elT_all, dmT_all, sbV_def, dV_def, List.getD_cons_zero])
               | ((with_reducible refine kp_skip ?_ ?_); rfl) | simp only [thenQ, blockQ, scopeQ, Nat.reduceEqDiff, reduceIte] | (with_reducible first | refine And.intro ?_ ?_ | intro vr))
              all_goals try (first | exact (hc3 (by assumption)).1 | exact (hc3 (by assumption)).2)
              all_goals try (first | (with_reducible assumption) | (intros; (try simp only [Bool.and_eq_true, Bool.or_eq_true, Bool.or_eq_false_iff, Bool.not_eq_true', Bool.not_eq_false', decide_eq_true_eq, decide_eq_false_iff_not, beq_iff_eq, beq_eq_false_iff_ne, bne_iff_ne, bne_eq_false_iff_eq, ne_eq, inI64, List.length_append] at *) <;> omega))
              all_goals ((first | refine end_retE ?_ | refine end_normE ?_); simp only [fin, go_sem])
              exact app_of (by first | exact slK_sl | rfl) slK_sl hR.symm
          | move q1 q2 q3 q4 hc1 hgt =>
            have q1' : eqS op ⟨#[105, 111, 116, 97]⟩ = false := q1
            have q2' : eqS op ⟨#[97, 112, 112, 101, 110, 100]⟩ = false := q2
            have q3' : eqS op ⟨#[112, 97, 99, 107]⟩ = false := q3
            have q5' : eqS op ⟨#[105, 110, 100, 101, 120]⟩ = false := by unfold selS at q4; exact (Bool.or_eq_false_iff.1 q4).1
            have q6' : eqS op ⟨#[117, 112, 100, 97, 116, 101]⟩ = false := by unfold selS at q4; exact (Bool.or_eq_false_iff.1 q4).2
            unfold dataS at hR
            rw [q1, if_neg (by simp), q2, q3, if_neg (by simp), q4, if_neg (by simp)] at hR
            obtain ⟨g, hg, hgt⟩ := hgt
            have hgt' : gatP ⟨s, b, rk, some g1, some g⟩ (sizeK ns num) d (cs.getD 0 nilA) := ⟨g, rfl, hgt⟩
            simp only at hg
            simp only [hg, Option.getD_some] at hR
            repeat' (first
             | (with_reducible first | refine t_seq fun K => ?_ | refine t_block ?_ | refine t_scope ?_ | refine t_label ?_ | refine t_skip ?_ | refine t_exit ?_ | refine t_ret ?_ | refine t_k ?_ | refine t_gF ?_ | exact kp_nil | exact Kp.refl _ | exact kp_to | refine kp_cons ?_ | refine kp_arr ?_ | refine kp_app ?_ | refine t_p ?_ | refine t_br (fun hc => ?_) fun hc => ?_)
             | ((with_reducible first | refine t_kE (t_openE ?_) | refine t_kD (t_openD ?_) | refine t_kE ?_ | refine t_kD ?_ | refine t_gS ?_ | refine t_kL ?_ | refine t_kLF ?_ ?_ | refine t_region fun K => ?_ | refine t_cond fun A B => ?_ | refine t_drawE (id := 11) (fun _ => true) [(0, true), (1, true), (2, true), (3, true), (5, true), (6, true), (7, true), (8, true), (4, false), (9, false), (10, true), (11, true)] (by kernel_rfl) fun K => ?_ | refine t_drawE (id := 21) (fun i => i == 1) [(0, true), (1, true), (2, true), (4, true), (5, true), (6, true), (7, true), (3, false), (8, false), (9, true), (10, false)] (by kernel_rfl) fun K => ?_ | refine t_draw (by kernel_rfl) fun K => ?_); (try (first | refine t_hideE fun KL => ?_ | refine t_hideD fun KL => ?_)); simp only [go_sem, geff, kp40, ho1, hg, fnV_some, q1', q2', q3', q5', q6', con74_d, con75_c, sizeK_def, arrV_def', arrOf_agg, hie, g3, hr, hD, arrs_length, Int.toNat_natCast, con42_f, con43_f, con60_f, con72_f, con73_f, con74_f, con75_f, con42_c, con43_c, slS_sl, slK_sl, ilsOf_sl, elT_all, dmT_all, sbV_def, dV_def, List.getD_cons_zero])
             | ((with_reducible refine kp_skip ?_ ?_); rfl) | simp only [thenQ, blockQ, scopeQ, Nat.reduceEqDiff, reduceIte] | (with_reducible first | refine And.intro ?_ ?_ | intro vr))
            all_goals try exact hgt'
            all_goals try (first | (with_reducible assumption) | (intros; (try simp only [Bool.and_eq_true, Bool.or_eq_true, Bool.or_eq_false_iff, Bool.not_eq_true', Bool.not_eq_false', decide_eq_true_eq, decide_eq_false_iff_not, beq_iff_eq, beq_eq_false_iff_ne, bne_iff_ne, bne_eq_false_iff_eq, ne_eq, inI64, List.length_append] at *) <;> omega))
            all_goals ((first | refine end_retE ?_ | refine end_normE ?_); simp only [fin, go_sem])
            exact app_of (by first | exact slK_sl | rfl) slK_sl hR.symm
        · rw [if_pos hde] at hR
          have hde' : (de != 0) = true := by simpa using hde
          repeat' (first
           | (with_reducible first | refine t_seq fun K => ?_ | refine t_block ?_ | refine t_scope ?_ | refine t_label ?_ | refine t_skip ?_ | refine t_exit ?_ | refine t_ret ?_ | refine t_k ?_ | refine t_gF ?_ | exact kp_nil | exact Kp.refl _ | exact kp_to | refine kp_cons ?_ | refine kp_arr ?_ | refine kp_app ?_ | refine t_p ?_ | refine t_br (fun hc => ?_) fun hc => ?_)
           | ((with_reducible first | refine t_kE (t_openE ?_) | refine t_kD (t_openD ?_) | refine t_kE ?_ | refine t_kD ?_ | refine t_gS ?_ | refine t_kL ?_ | refine t_kLF ?_ ?_ | refine t_region fun K => ?_ | refine t_cond fun A B => ?_ | refine t_drawE (id := 11) (fun _ => true) [(0, true), (1, true), (2, true), (3, true), (5, true), (6, true), (7, true), (8, true), (4, false), (9, false), (10, true), (11, true)] (by kernel_rfl) fun K => ?_ | refine t_drawE (id := 21) (fun i => i == 1) [(0, true), (1, true), (2, true), (4, true), (5, true), (6, true), (7, true), (3, false), (8, false), (9, true), (10, false)] (by kernel_rfl) fun K => ?_ | refine t_draw (by kernel_rfl) fun K => ?_); (try (first | refine t_hideE fun KL => ?_ | refine t_hideD fun KL => ?_)); simp only [go_sem, geff, kp40, hie, g3, hr, hD, hde', Int.toNat_natCast, con42_f, con43_f, con60_f, con72_f, con73_f, con74_f, con75_f, con42_c, con43_c, slS_sl, slK_sl, ilsOf_sl, elT_all, dmT_all, sbV_def, dV_def])
           | ((with_reducible refine kp_skip ?_ ?_); rfl) | simp only [thenQ, blockQ, scopeQ, Nat.reduceEqDiff, reduceIte] | (with_reducible first | refine And.intro ?_ ?_ | intro vr))
          all_goals try (first | (with_reducible assumption) | (intros; (try simp only [Bool.and_eq_true, Bool.or_eq_true, Bool.or_eq_false_iff, Bool.not_eq_true', Bool.not_eq_false', decide_eq_true_eq, decide_eq_false_iff_not, beq_iff_eq, beq_eq_false_iff_ne, bne_iff_ne, bne_eq_false_iff_eq, ne_eq, inI64, List.length_append] at *) <;> omega))
          all_goals ((first | refine end_retE ?_ | refine end_normE ?_); simp only [fin, go_sem])
          exact app_of rfl rfl hR.symm
  · rw [if_pos h0] at hR
    obtain ⟨s, b, rk, o, p⟩ := e
    have h0' : (er != 0) = true := by simpa using h0
    refine pc_ofR K1_ok mixed (kp40) (rs := [.cell 8 33, .tmp 9, .tmp 10]) Try.func40 rfl (by kernel_rfl) (by kernel_rfl) (Nat.le_of_ble_eq_true rfl) ?_
    simp only [initF_cons, initF_nil, Nat.reduceAdd]
    refine t_name fun KF => ?_
    unfold K1
    repeat' (first
     | (with_reducible first | refine t_seq fun K => ?_ | refine t_block ?_ | refine t_scope ?_ | refine t_label ?_ | refine t_skip ?_ | refine t_exit ?_ | refine t_ret ?_ | refine t_k ?_ | refine t_gF ?_ | exact kp_nil | exact Kp.refl _ | exact kp_to | refine kp_cons ?_ | refine kp_arr ?_ | refine kp_app ?_ | refine t_p ?_ | refine t_br (fun hc => ?_) fun hc => ?_)
     | ((with_reducible first | refine t_kE (t_openE ?_) | refine t_kD (t_openD ?_) | refine t_kE ?_ | refine t_kD ?_ | refine t_gS ?_ | refine t_kL ?_ | refine t_kLF ?_ ?_ | refine t_region fun K => ?_ | refine t_cond fun A B => ?_ | refine t_drawE (id := 11) (fun _ => true) [(0, true), (1, true), (2, true), (3, true), (5, true), (6, true), (7, true), (8, true), (4, false), (9, false), (10, true), (11, true)] (by kernel_rfl) fun K => ?_ | refine t_drawE (id := 21) (fun i => i == 1) [(0, true), (1, true), (2, true), (4, true), (5, true), (6, true), (7, true), (3, false), (8, false), (9, true), (10, false)] (by kernel_rfl) fun K => ?_ | refine t_draw (by kernel_rfl) fun K => ?_); (try (first | refine t_hideE fun KL => ?_ | refine t_hideD fun KL => ?_)); simp only [go_sem, geff, kp40, con42_f, con43_f, con60_f, con72_f, con73_f, con74_f, con75_f, con72_c, arrs_length, slK_sl, gV_def, hG, entV_def, h0'])
     | ((with_reducible refine kp_skip ?_ ?_); rfl) | simp only [thenQ, blockQ, scopeQ, Nat.reduceEqDiff, reduceIte] | (with_reducible first | refine And.intro ?_ ?_ | intro vr))
    all_goals try (first | (with_reducible assumption) | (intros; (try simp only [Bool.and_eq_true, Bool.or_eq_true, Bool.or_eq_false_iff, Bool.not_eq_true', Bool.not_eq_false', decide_eq_true_eq, decide_eq_false_iff_not, beq_iff_eq, beq_eq_false_iff_ne, bne_iff_ne, bne_eq_false_iff_eq, ne_eq, inI64, List.length_append] at *) <;> omega))
    all_goals ((first | refine end_retE ?_ | refine end_normE ?_); simp only [fin, go_sem])
    exact app_of rfl rfl hR.symm
noncomputable def con40 : PCon Try.prog where
  f := 40
  c := fun
    | [.lit (.string op), xns, .lit (.int .i64 num), xcs] => match slK .i64 xns, arrsOf xcs with | some ns, some cs => some (cs.length ≤ 4096 ∧ (∀ a ∈ cs, okA a), appV (applyS op ns num cs)) | _, _ => none
    | _ => none
  ok := by
    intro args p r hc hp
    split at hc
    · split at hc
      · rename_i hns hcs
        cases hc
        exact PC.weak ((fun hp : _ ∧ _ => apply_pc hp.1 hp.2) hp) ⟨LeA.refl _, slK_le hns, LeA.refl _, arrsOf_le hcs, trivial⟩
      · cases hc
    · cases hc
  fk := fk40
theorem con40_f : con40.f = 40 := rfl
theorem con40_c {op : ByteArray} {xns : AV} {num : Int} {xcs : AV} : con40.c [.lit (.string op), xns, .lit (.int .i64 num), xcs] = match slK .i64 xns, arrsOf xcs with | some ns, some cs => some (cs.length ≤ 4096 ∧ (∀ a ∈ cs, okA a), appV (applyS op ns num cs)) | _, _ => none := rfl
end Go.Proofs.Ytjlcbojpiieafaa
