/- The law on matrices. -/
import Derived.Test.YtjlcbojpiieafaaTD
import Derived.Test.YtjlcbojpiieafaaTK

set_option linter.all false

namespace Go.Proofs.Ytjlcbojpiieafaa
open Go Go.Fw
def kp11 (i : Nat) : List Nat := if i < 13 then if i < 6 then if i < 3 then if i < 1 then [1] else if i < 2 then [1, 12] else [2] else if i < 4 then [1, 27] else if i < 5 then [2] else [1, 3] else if i < 9 then if i < 7 then [1, 3, 56] else if i < 8 then [2] else [1, 3, 59, 60] else if i < 11 then if i < 10 then [1, 3, 59, 60, 61] else [1, 3, 4, 59, 60] else if i < 12 then [1, 3, 4, 5, 59, 60] else [1, 3, 59, 60, 91] else if i < 19 then if i < 16 then if i < 14 then [2] else if i < 15 then [1, 3, 59, 60] else [1, 3, 101] else if i < 17 then [8] else if i < 18 then [2] else [1, 3, 9] else if i < 22 then if i < 20 then [1, 3, 9, 116, 117] else if i < 21 then [1, 3, 9, 116, 117, 118] else [1, 3, 9, 10, 116, 117] else if i < 24 then if i < 23 then [1, 3, 9, 116, 117, 137] else [2] else if i < 25 then [1, 3, 9, 116, 117] else [2]
set_option maxRecDepth 20000

noncomputable def V1 : Env := envJ (P := Try.prog) jk2 zer (fun _ => false) (fun _ => false) [con19, con36, con38, con39, con40, con46, con47] []
theorem V1_ok : EnvOk Try.prog V1 := envJOk zer_ok
theorem vM.ok {e : ByteArray} {r c : Nat} {x : List Int} (h : vM e r c x) : okA ⟨e, [(r : Int), (c : Int)], x⟩ := ⟨by simp, by have := h.len; have := h.le; show x.length ≤ 1000000; omega⟩
theorem few1 {a : Arr} : fewM [a] = fewA a 60 := by simp [fewM]
set_option maxHeartbeats 16000000 in
theorem mat_law_pc {a : Arr} : PC Try.prog 11 [arrV a] (.lit (.bool true)) := by
  rcases Bool.eq_false_or_eq_true ((!fewM [a] || !(ofE a == 0)) || ((a.d.length : Int) != 2)) with hx | hx
  · have hX : fewM [a] = true → okA a := fun h => (fewM_ok h).2 a (by simp)
    have hx' := hx
    cases hfm : fewM [a] with
    | false =>
      refine pc_ofR V1_ok mixed (kp11) (rs := [.tmp 2]) Try.func11 rfl (by kernel_rfl) (by kernel_rfl) (Nat.le_of_ble_eq_true rfl) ?_
      simp only [initF_cons, initF_nil, Nat.reduceAdd]
      refine t_name fun KF => ?_
      unfold V1
      repeat' (first
       | (with_reducible first | refine t_seq fun K => ?_ | refine t_block ?_ | refine t_scope ?_ | refine t_label ?_ | refine t_skip ?_ | refine t_exit ?_ | refine t_ret ?_ | refine t_k ?_ | refine t_gF ?_ | exact kp_nil | exact Kp.refl _ | exact kp_to | refine kp_cons ?_ | refine kp_arr ?_ | refine kp_app ?_ | refine t_p ?_ | refine t_br (fun hc => ?_) fun hc => ?_)
       | ((with_reducible first | refine t_kE (t_openE ?_) | refine t_kD (t_openD ?_) | refine t_kE ?_ | refine t_kD ?_ | refine t_gS ?_ | refine t_kL ?_ | refine t_kLF ?_ ?_ | refine t_region fun K => ?_ | refine t_cond fun A B => ?_ | refine t_draw (by kernel_rfl) fun K => ?_); (try (first | refine t_hideE fun KL => ?_ | refine t_hideD fun KL => ?_)); simp only [go_sem, geff, kp11, con19_f, con36_f, con38_f, con39_f, con40_f, con46_f, con47_f, con38_c, con39_c, arrsOf_x, arrL_cons, arrL_nil, arrOf_agg, arrV_def', arr_eta, hfm])
       | ((with_reducible refine kp_skip ?_ ?_); rfl) | simp only [thenQ, blockQ, scopeQ, Nat.reduceEqDiff, reduceIte] | (with_reducible first | refine And.intro ?_ ?_ | intro vr))
      all_goals try (first | (with_reducible assumption) | (intros; (try simp only [Bool.and_eq_true, Bool.or_eq_true, Bool.or_eq_false_iff, Bool.not_eq_true', Bool.not_eq_false', decide_eq_true_eq, decide_eq_false_iff_not, beq_iff_eq, beq_eq_false_iff_ne, bne_iff_ne, bne_eq_false_iff_eq, ne_eq, inI64, List.length_append] at *) <;> omega))
      all_goals ((first | refine end_retE ?_ | refine end_normE ?_); simp only [fin, go_sem])
      exact LeA.refl _
    | true =>
      have o1 := (hX hfm).1
      have o2 := (hX hfm).2
      rw [hfm, Bool.not_true, Bool.false_or] at hx
      refine pc_ofR V1_ok mixed (kp11) (rs := [.tmp 2]) Try.func11 rfl (by kernel_rfl) (by kernel_rfl) (Nat.le_of_ble_eq_true rfl) ?_
      simp only [initF_cons, initF_nil, Nat.reduceAdd]
      refine t_name fun KF => ?_
      unfold V1
      repeat' (first
       | (with_reducible first | refine t_seq fun K => ?_ | refine t_block ?_ | refine t_scope ?_ | refine t_label ?_ | refine t_skip ?_ | refine t_exit ?_ | refine t_ret ?_ | refine t_k ?_ | refine t_gF ?_ | exact kp_nil | exact Kp.refl _ | exact kp_to | refine kp_cons ?_ | refine kp_arr ?_ | refine kp_app ?_ | refine t_p ?_ | refine t_br (fun hc => ?_) fun hc => ?_)
       | ((with_reducible first | refine t_kE (t_openE ?_) | refine t_kD (t_openD ?_) | refine t_kE ?_ | refine t_kD ?_ | refine t_gS ?_ | refine t_kL ?_ | refine t_kLF ?_ ?_ | refine t_region fun K => ?_ | refine t_cond fun A B => ?_ | refine t_draw (by kernel_rfl) fun K => ?_); (try (first | refine t_hideE fun KL => ?_ | refine t_hideD fun KL => ?_)); simp only [go_sem, geff, kp11, con19_f, con36_f, con38_f, con39_f, con40_f, con46_f, con47_f, con36_c, con38_c, con39_c, arrsOf_x, arrL_cons, arrL_nil, arrOf_agg, slK_sl, arrV_def', arr_eta, hfm, hx])
       | ((with_reducible refine kp_skip ?_ ?_); rfl) | simp only [thenQ, blockQ, scopeQ, Nat.reduceEqDiff, reduceIte] | (with_reducible first | refine And.intro ?_ ?_ | intro vr))
      all_goals try (first | (with_reducible assumption) | (intros; (try simp only [Bool.and_eq_true, Bool.or_eq_true, Bool.or_eq_false_iff, Bool.not_eq_true', Bool.not_eq_false', decide_eq_true_eq, decide_eq_false_iff_not, beq_iff_eq, beq_eq_false_iff_ne, bne_iff_ne, bne_eq_false_iff_eq, ne_eq, inI64, List.length_append] at *) <;> omega))
      all_goals ((first | refine end_retE ?_ | refine end_normE ?_); simp only [fin, go_sem])
      exact LeA.refl _
  · simp only [Bool.or_eq_false_iff, Bool.not_eq_false', bne_eq_false_iff_eq] at hx
    obtain ⟨⟨hfm, hv⟩, hl2⟩ := hx
    obtain ⟨e, d, x⟩ := a
    simp only at hl2
    obtain ⟨r0, c0, rfl⟩ := len2' hl2
    obtain ⟨r, c, rfl, rfl, hM⟩ := vM_of (beq_iff_eq.1 hv)
    have hT := hM.tr
    have e1 : doA ⟨#[116, 114, 97, 110, 115, 112, 111, 115, 101]⟩ 0 [⟨e, [(r : Int), (c : Int)], x⟩] = ⟨e, [(c : Int), (r : Int)], trD x r c⟩ := do_tr hM
    have e2 : doA ⟨#[116, 114, 97, 110, 115, 112, 111, 115, 101]⟩ 0 [⟨e, [(c : Int), (r : Int)], trD x r c⟩] = ⟨e, [(r : Int), (c : Int)], x⟩ := by have := do_tr hT; rw [tr_tr hM.len] at this; exact this
    have hd1 : r ≠ c → applyS ⟨#[100, 105, 97, 103, 111, 110, 97, 108]⟩ [] 0 [⟨e, [(r : Int), (c : Int)], x⟩] = (nilA, false, 14) := fun h => dg_no hM h
    have hd2 : r = c → doA ⟨#[100, 105, 97, 103, 111, 110, 97, 108]⟩ 0 [⟨e, [(r : Int), (c : Int)], x⟩] = ⟨e, [(r : Int)], dgD x r⟩ := fun h => by subst h; exact do_dg hM
    have hd3 : r = c → doA ⟨#[100, 105, 97, 103, 111, 110, 97, 108]⟩ 0 [⟨e, [(c : Int), (r : Int)], trD x r c⟩] = ⟨e, [(r : Int)], dgD x r⟩ := fun h => by subst h; have := do_dg hT; rw [dg_tr] at this; exact this
    have hd4 : r = c → sameA ⟨e, [(r : Int)], dgD x r⟩ ⟨e, [(r : Int)], dgD x r⟩ = true := fun h => by subst h; unfold sameA; rw [dg_val hM, eqA_refl]; rfl
    have hd5 : ∀ i, i < r → (dgD x r).getD i 0 = x.getD (i * r + i) 0 := fun i hi => dgD_get hi
    have hdl := dgD_len (x := x) (n := r)
    have s1 : sameA ⟨e, [(r : Int), (c : Int)], x⟩ ⟨e, [(r : Int), (c : Int)], x⟩ = true := by unfold sameA; rw [hM.ofE, eqA_refl]; rfl
    have v1 : (ofE ⟨e, [(c : Int), (r : Int)], trD x r c⟩ == 0) = true := by rw [hT.ofE]; rfl
    have oM := hM.ok
    have oT := hT.ok
    have tg : ∀ p, p < c * r → (trD x r c).getD p 0 = x.getD (p % r * c + p / r) 0 := fun p hp => trD_get hp
    have tl := trD_len (x := x) (r := r) (c := c)
    have xl := hM.len
    have xle := hM.le
    have rb := hM.rb
    have cb := hM.cb
    generalize trD x r c = y at *
    generalize dgD x r = z at *
    have o1 := oM.2
    have o2 := oT.2
    simp only at o1 o2
    have oZ : okA ⟨e, [(r : Int)], z⟩ := ⟨by simp, by show z.length ≤ 1000000; omega⟩
    have l1 := okc _ [] oM okn
    have l2 := okc _ [] oT okn
    have dd := dself' [(c : Int), (r : Int)]
    refine pc_ofR V1_ok mixed (kp11) (rs := [.tmp 2]) Try.func11 rfl (by kernel_rfl) (by kernel_rfl) (Nat.le_of_ble_eq_true rfl) ?_
    simp only [initF_cons, initF_nil, Nat.reduceAdd]
    refine t_name fun KF => ?_
    unfold V1
    repeat' (first
     | (with_reducible first | refine t_seq fun K => ?_ | refine t_block ?_ | refine t_scope ?_ | refine t_label ?_ | refine t_skip ?_ | refine t_exit ?_ | refine t_ret ?_ | refine t_k ?_ | refine t_gF ?_ | exact kp_nil | exact Kp.refl _ | exact kp_to | refine kp_cons ?_ | refine kp_arr ?_ | refine kp_app ?_ | refine t_p ?_ | refine t_br (fun hc => ?_) fun hc => ?_)
     | ((with_reducible first | refine t_kE (t_openE ?_) | refine t_kD (t_openD ?_) | refine t_kE ?_ | refine t_kD ?_ | refine t_gS ?_ | refine t_kL ?_ | refine t_kLF ?_ ?_ | refine t_region fun K => ?_ | refine t_cond fun A B => ?_ | refine t_draw (by kernel_rfl) fun K => ?_); (try (first | refine t_hideE fun KL => ?_ | refine t_hideD fun KL => ?_)); simp only [go_sem, geff, kp11, con19_f, con36_f, con38_f, con39_f, con40_f, con46_f, con47_f, con19_c, con36_c, con38_c, con39_c, con46_c, con47_c, arrsOf_x, arrL_cons, arrL_nil, arrOf_agg, slK_sl, slK_cons, slK_emp, arrV_def', arr_eta, hfm, hv, e1, e2, s1, v1, dd, Option.map_some, List.length_cons, List.length_nil, List.getD_cons_zero, List.getD_cons_succ])
     | ((with_reducible refine kp_skip ?_ ?_); rfl) | simp only [thenQ, blockQ, scopeQ, Nat.reduceEqDiff, reduceIte] | (with_reducible first | refine And.intro ?_ ?_ | intro vr))
    all_goals try (first | exact l1 _ (by assumption) | exact l2 _ (by assumption) | exact oM | exact oT | decide)
    all_goals try (first | (with_reducible assumption) | (intros; (try simp only [Bool.and_eq_true, Bool.or_eq_true, Bool.or_eq_false_iff, Bool.not_eq_true', Bool.not_eq_false', decide_eq_true_eq, decide_eq_false_iff_not, beq_iff_eq, beq_eq_false_iff_ne, bne_iff_ne, bne_eq_false_iff_eq, ne_eq, inI64, List.length_append] at *) <;> omega))
    refine t_loopF (ι := { i : Nat // i ≤ y.length }) (fun i => [(60, .lit (.int .i64 i.1))]) (fun i => [.box 33 [.lit (.string e), .sl false 1 (ints .i64 [(r : Int), (c : Int)]), .sl false 1 (ints .i64 x)], .box 33 [.lit (.string e), .sl false 1 (ints .i64 [(c : Int), (r : Int)]), .sl false 1 (ints .i64 y)]]) (fun i => y.length - i.1) ⟨0, by omega⟩ ?_ ?_
    · simp only [updL_nil, updL_cons, delF_top, delF_upd, Nat.reduceEqDiff, reduceIte]
      refine Le.frameS (by first | rfl | (simp only [go_sem]; try rfl)) ?_
      repeat' (first | exact leF_top _ | exact (fun _ => LeR.refl _) | (with_reducible refine leF_sl ?_ ?_) | (refine leF_upd ?_ ?_))
      all_goals (first | exact LeR.top _ | exact LeR.refl _ | (refine LeR.of_eq ?_; (try simp only [go_sem]); try rfl) | ((try simp only [go_sem]); try rfl))
    rintro ⟨i, hi⟩ K0
    rcases Nat.lt_or_ge i y.length with hc | hc
    · have g3 : decide ((i : Int) < (y.length : Int)) = true := decide_eq_true (by omega)
      have hip : i < c * r := by omega
      obtain ⟨i1, i2, i3⟩ := idx_tr hip
      have hg := tg i hip
      have t1 : (i : Int).tdiv (r : Int) = ((i / r : Nat) : Int) := by rw [Int.tdiv_eq_ediv_of_nonneg (by omega)]; rfl
      have t2 : (i : Int).tmod (r : Int) = ((i % r : Nat) : Int) := by rw [Int.tmod_eq_emod_of_nonneg (by omega)]; rfl
      generalize i / r = qa at *
      generalize i % r = qb at *
      have t3 : ((qb : Int) * (c : Int) + (qa : Int)).toNat = qb * c + qa := by rw [← Int.natCast_mul, ← Int.natCast_add, Int.toNat_natCast]
      have t4 : (0 : Int) ≤ (qb : Int) * (c : Int) ∧ (qb : Int) * (c : Int) + qa < x.length := by rw [xl, ← Int.natCast_mul]; omega
      have t5 := t4.1
      have t6 := t4.2
      repeat' (first
       | (with_reducible first | refine t_seq fun K => ?_ | refine t_block ?_ | refine t_scope ?_ | refine t_label ?_ | refine t_skip ?_ | refine t_exit ?_ | refine t_ret ?_ | refine t_k ?_ | refine t_gF ?_ | exact kp_nil | exact Kp.refl _ | exact kp_to | refine kp_cons ?_ | refine kp_arr ?_ | refine kp_app ?_ | refine t_p ?_ | refine t_br (fun hc => ?_) fun hc => ?_)
       | ((with_reducible first | refine t_kE (t_openE ?_) | refine t_kD (t_openD ?_) | refine t_kE ?_ | refine t_kD ?_ | refine t_gS ?_ | refine t_kL ?_ | refine t_kLF ?_ ?_ | refine t_region fun K => ?_ | refine t_cond fun A B => ?_ | refine t_draw (by kernel_rfl) fun K => ?_); (try (first | refine t_hideE fun KL => ?_ | refine t_hideD fun KL => ?_)); simp only [go_sem, geff, kp11, g3, t1, t2, t3, hg, bne_self_eq_false, Int.toNat_natCast, con19_f, con36_f, con38_f, con39_f, con40_f, con46_f, con47_f, List.length_cons, List.length_nil, List.getD_cons_zero, List.getD_cons_succ])
       | ((with_reducible refine kp_skip ?_ ?_); rfl) | simp only [thenQ, blockQ, scopeQ, Nat.reduceEqDiff, reduceIte] | (with_reducible first | refine And.intro ?_ ?_ | intro vr))
      all_goals try (first | (with_reducible assumption) | (intros; (try simp only [Bool.and_eq_true, Bool.or_eq_true, Bool.or_eq_false_iff, Bool.not_eq_true', Bool.not_eq_false', decide_eq_true_eq, decide_eq_false_iff_not, beq_iff_eq, beq_eq_false_iff_ne, bne_iff_ne, bne_eq_false_iff_eq, ne_eq, inI64, List.length_append] at *) <;> omega))
      refine ⟨⟨i + 1, by omega⟩, by first | (simp only; omega) | omega, ?_⟩
      simp only [updL_nil, updL_cons, delF_top, delF_upd, Nat.reduceEqDiff, reduceIte]
      refine Le.frameS (by first | rfl | (simp only [go_sem]; try rfl)) ?_
      repeat' (first | exact leF_top _ | exact (fun _ => LeR.refl _) | (with_reducible refine leF_sl ?_ ?_) | (refine leF_upd ?_ ?_))
      all_goals (first | exact LeR.top _ | exact LeR.refl _ | (refine LeR.of_eq ?_; (try simp only [go_sem]); try rfl) | ((try simp only [go_sem]); try rfl))
    · have hie : i = y.length := by omega
      have g3 : decide ((y.length : Int) < (y.length : Int)) = false := decide_eq_false (by omega)
      by_cases hrc : r = c
      · have f1 : ((r : Int) != (c : Int)) = false := by rw [bne_eq_false_iff_eq]; omega
        have f2 := hd2 hrc
        have f3 := hd3 hrc
        have f4 := hd4 hrc
        repeat' (first
         | (with_reducible first | refine t_seq fun K => ?_ | refine t_block ?_ | refine t_scope ?_ | refine t_label ?_ | refine t_skip ?_ | refine t_exit ?_ | refine t_ret ?_ | refine t_k ?_ | refine t_gF ?_ | exact kp_nil | exact Kp.refl _ | exact kp_to | refine kp_cons ?_ | refine kp_arr ?_ | refine kp_app ?_ | refine t_p ?_ | refine t_br (fun hc => ?_) fun hc => ?_)
         | ((with_reducible first | refine t_kE (t_openE ?_) | refine t_kD (t_openD ?_) | refine t_kE ?_ | refine t_kD ?_ | refine t_gS ?_ | refine t_kL ?_ | refine t_kLF ?_ ?_ | refine t_region fun K => ?_ | refine t_cond fun A B => ?_ | refine t_draw (by kernel_rfl) fun K => ?_); (try (first | refine t_hideE fun KL => ?_ | refine t_hideD fun KL => ?_)); simp only [go_sem, geff, kp11, hie, g3, f1, f2, Int.toNat_natCast, con19_f, con36_f, con38_f, con39_f, con40_f, con46_f, con47_f, con46_c, arrsOf_x, arrL_cons, arrL_nil, arrOf_agg, slK_sl, slK_emp, arrV_def', arr_eta, List.length_cons, List.length_nil, List.getD_cons_zero, List.getD_cons_succ])
         | ((with_reducible refine kp_skip ?_ ?_); rfl) | simp only [thenQ, blockQ, scopeQ, Nat.reduceEqDiff, reduceIte] | (with_reducible first | refine And.intro ?_ ?_ | intro vr))
        all_goals try (first | exact l1 _ (by assumption) | exact l2 _ (by assumption) | exact oM | exact oT | decide)
        all_goals try (first | (with_reducible assumption) | (intros; (try simp only [Bool.and_eq_true, Bool.or_eq_true, Bool.or_eq_false_iff, Bool.not_eq_true', Bool.not_eq_false', decide_eq_true_eq, decide_eq_false_iff_not, beq_iff_eq, beq_eq_false_iff_ne, bne_iff_ne, bne_eq_false_iff_eq, ne_eq, inI64, List.length_append] at *) <;> omega))
        refine t_loopF (ι := { i : Nat // i ≤ z.length }) (fun i => [(117, .lit (.int .i64 i.1))]) (fun i => [.box 33 [.lit (.string e), .sl false 1 (ints .i64 [(r : Int), (c : Int)]), .sl false 1 (ints .i64 x)], .box 33 [.lit (.string e), .sl false 1 (ints .i64 [(c : Int), (r : Int)]), .sl false 1 (ints .i64 y)], .box 33 [.lit (.string e), .sl false 1 (ints .i64 [(r : Int)]), .sl false 1 (ints .i64 z)]]) (fun i => z.length - i.1) ⟨0, by omega⟩ ?_ ?_
        · simp only [updL_nil, updL_cons, delF_top, delF_upd, Nat.reduceEqDiff, reduceIte]
          refine Le.frameS (by first | rfl | (simp only [go_sem]; try rfl)) ?_
          repeat' (first | exact leF_top _ | exact (fun _ => LeR.refl _) | (with_reducible refine leF_sl ?_ ?_) | (refine leF_upd ?_ ?_))
          all_goals (first | exact LeR.top _ | exact LeR.refl _ | (refine LeR.of_eq ?_; (try simp only [go_sem]); try rfl) | ((try simp only [go_sem]); try rfl))
        rintro ⟨j, hj⟩ K1
        rcases Nat.lt_or_ge j z.length with hc2 | hc2
        · have g4 : decide ((j : Int) < (z.length : Int)) = true := decide_eq_true (by omega)
          have hg := hd5 j (by omega)
          have i1 := idx_dg (show j < r by omega)
          have hrc2 : (c : Int) = (r : Int) := by omega
          have t3 : ((j : Int) * (r : Int) + (j : Int)).toNat = j * r + j := by rw [← Int.natCast_mul, ← Int.natCast_add, Int.toNat_natCast]
          have t4 : (0 : Int) ≤ (j : Int) * (r : Int) ∧ (j : Int) * (r : Int) + j < x.length := by rw [xl, ← hrc, ← Int.natCast_mul]; omega
          have t5 := t4.1
          have t6 := t4.2
          repeat' (first
           | (with_reducible first | refine t_seq fun K => ?_ | refine t_block ?_ | refine t_scope ?_ | refine t_label ?_ | refine t_skip ?_ | refine t_exit ?_ | refine t_ret ?_ | refine t_k ?_ | refine t_gF ?_ | exact kp_nil | exact Kp.refl _ | exact kp_to | refine kp_cons ?_ | refine kp_arr ?_ | refine kp_app ?_ | refine t_p ?_ | refine t_br (fun hc => ?_) fun hc => ?_)
           | ((with_reducible first | refine t_kE (t_openE ?_) | refine t_kD (t_openD ?_) | refine t_kE ?_ | refine t_kD ?_ | refine t_gS ?_ | refine t_kL ?_ | refine t_kLF ?_ ?_ | refine t_region fun K => ?_ | refine t_cond fun A B => ?_ | refine t_draw (by kernel_rfl) fun K => ?_); (try (first | refine t_hideE fun KL => ?_ | refine t_hideD fun KL => ?_)); simp only [go_sem, geff, kp11, g4, hrc2, t3, hg, bne_self_eq_false, Int.toNat_natCast, con19_f, con36_f, con38_f, con39_f, con40_f, con46_f, con47_f, List.length_cons, List.length_nil, List.getD_cons_zero, List.getD_cons_succ])
           | ((with_reducible refine kp_skip ?_ ?_); rfl) | simp only [thenQ, blockQ, scopeQ, Nat.reduceEqDiff, reduceIte] | (with_reducible first | refine And.intro ?_ ?_ | intro vr))
          all_goals try (first | (with_reducible assumption) | (intros; (try simp only [Bool.and_eq_true, Bool.or_eq_true, Bool.or_eq_false_iff, Bool.not_eq_true', Bool.not_eq_false', decide_eq_true_eq, decide_eq_false_iff_not, beq_iff_eq, beq_eq_false_iff_ne, bne_iff_ne, bne_eq_false_iff_eq, ne_eq, inI64, List.length_append] at *) <;> omega))
          refine ⟨⟨j + 1, by omega⟩, by simp only; omega, ?_⟩
          simp only [updL_nil, updL_cons, delF_top, delF_upd, Nat.reduceEqDiff, reduceIte, hrc2]
          refine Le.frameS (by first | rfl | (simp only [go_sem]; try rfl)) ?_
          repeat' (first | exact leF_top _ | exact (fun _ => LeR.refl _) | (with_reducible refine leF_sl ?_ ?_) | (refine leF_upd ?_ ?_))
          all_goals (first | exact LeR.top _ | exact LeR.refl _ | (refine LeR.of_eq ?_; (try simp only [go_sem]); try rfl) | ((try simp only [go_sem]); try rfl))
        · have hje : j = z.length := by omega
          have g4 : decide ((z.length : Int) < (z.length : Int)) = false := decide_eq_false (by omega)
          have g5 : ((z.length : Int) == (r : Int)) = true := by rw [beq_iff_eq]; omega
          repeat' (first
           | (with_reducible first | refine t_seq fun K => ?_ | refine t_block ?_ | refine t_scope ?_ | refine t_label ?_ | refine t_skip ?_ | refine t_exit ?_ | refine t_ret ?_ | refine t_k ?_ | refine t_gF ?_ | exact kp_nil | exact Kp.refl _ | exact kp_to | refine kp_cons ?_ | refine kp_arr ?_ | refine kp_app ?_ | refine t_p ?_ | refine t_br (fun hc => ?_) fun hc => ?_)
           | ((with_reducible first | refine t_kE (t_openE ?_) | refine t_kD (t_openD ?_) | refine t_kE ?_ | refine t_kD ?_ | refine t_gS ?_ | refine t_kL ?_ | refine t_kLF ?_ ?_ | refine t_region fun K => ?_ | refine t_cond fun A B => ?_ | refine t_draw (by kernel_rfl) fun K => ?_); (try (first | refine t_hideE fun KL => ?_ | refine t_hideD fun KL => ?_)); simp only [go_sem, geff, kp11, hje, g4, g5, f3, f4, Int.toNat_natCast, con19_f, con36_f, con38_f, con39_f, con40_f, con46_f, con47_f, con46_c, con47_c, arrsOf_x, arrL_cons, arrL_nil, arrOf_agg, slK_sl, slK_emp, arrV_def', arr_eta, List.length_cons, List.length_nil, List.getD_cons_zero, List.getD_cons_succ])
           | ((with_reducible refine kp_skip ?_ ?_); rfl) | simp only [thenQ, blockQ, scopeQ, Nat.reduceEqDiff, reduceIte] | (with_reducible first | refine And.intro ?_ ?_ | intro vr))
          all_goals try (first | exact l1 _ (by assumption) | exact l2 _ (by assumption) | exact oZ | exact oM | exact oT | decide)
          all_goals try (first | (with_reducible assumption) | (intros; (try simp only [Bool.and_eq_true, Bool.or_eq_true, Bool.or_eq_false_iff, Bool.not_eq_true', Bool.not_eq_false', decide_eq_true_eq, decide_eq_false_iff_not, beq_iff_eq, beq_eq_false_iff_ne, bne_iff_ne, bne_eq_false_iff_eq, ne_eq, inI64, List.length_append] at *) <;> omega))
          all_goals ((first | refine end_retE ?_ | refine end_normE ?_); simp only [fin, go_sem])
          exact LeA.refl _
      · have f1 : ((r : Int) != (c : Int)) = true := by simpa using (show (r : Int) ≠ (c : Int) by omega)
        have f2 := hd1 hrc
        repeat' (first
         | (with_reducible first | refine t_seq fun K => ?_ | refine t_block ?_ | refine t_scope ?_ | refine t_label ?_ | refine t_skip ?_ | refine t_exit ?_ | refine t_ret ?_ | refine t_k ?_ | refine t_gF ?_ | exact kp_nil | exact Kp.refl _ | exact kp_to | refine kp_cons ?_ | refine kp_arr ?_ | refine kp_app ?_ | refine t_p ?_ | refine t_br (fun hc => ?_) fun hc => ?_)
         | ((with_reducible first | refine t_kE (t_openE ?_) | refine t_kD (t_openD ?_) | refine t_kE ?_ | refine t_kD ?_ | refine t_gS ?_ | refine t_kL ?_ | refine t_kLF ?_ ?_ | refine t_region fun K => ?_ | refine t_cond fun A B => ?_ | refine t_draw (by kernel_rfl) fun K => ?_); (try (first | refine t_hideE fun KL => ?_ | refine t_hideD fun KL => ?_)); simp only [go_sem, geff, kp11, hie, g3, f1, f2, Int.toNat_natCast, con19_f, con36_f, con38_f, con39_f, con40_f, con46_f, con47_f, con40_c, appV_def, arrsOf_x, arrL_cons, arrL_nil, arrOf_agg, slK_sl, slK_nil, slK_emp, arrV_def', arr_eta, List.length_cons, List.length_nil, List.getD_cons_zero, List.getD_cons_succ])
         | ((with_reducible refine kp_skip ?_ ?_); rfl) | simp only [thenQ, blockQ, scopeQ, Nat.reduceEqDiff, reduceIte] | (with_reducible first | refine And.intro ?_ ?_ | intro vr))
        all_goals try (first | exact l1 _ (by assumption) | exact l2 _ (by assumption) | exact oM | exact oT | decide)
        all_goals try (first | (with_reducible assumption) | (intros; (try simp only [Bool.and_eq_true, Bool.or_eq_true, Bool.or_eq_false_iff, Bool.not_eq_true', Bool.not_eq_false', decide_eq_true_eq, decide_eq_false_iff_not, beq_iff_eq, beq_eq_false_iff_ne, bne_iff_ne, bne_eq_false_iff_eq, ne_eq, inI64, List.length_append] at *) <;> omega))
        all_goals ((first | refine end_retE ?_ | refine end_normE ?_); simp only [fin, go_sem])
        exact LeA.refl _
theorem mat_law : ∀ xs, ShL Try.prog Try.f11.params.toList xs → PC Try.prog 11 xs (.lit (.bool true))
  | [x], h => by
    obtain ⟨a, rfl, _⟩ := shv_arr h.1
    exact mat_law_pc
  | [], h => h.elim
  | _ :: _ :: _, h => h.2.elim
end Go.Proofs.Ytjlcbojpiieafaa
