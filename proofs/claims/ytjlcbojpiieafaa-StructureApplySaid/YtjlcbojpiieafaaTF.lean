/- The law on the results of primitives. -/
import Derived.Test.YtjlcbojpiieafaaTD
import Derived.Test.YtjlcbojpiieafaaTE

set_option linter.all false

namespace Go.Proofs.Ytjlcbojpiieafaa
open Go Go.Fw
def kp9 (i : Nat) : List Nat := if i < 9 then if i < 4 then if i < 2 then if i < 1 then [0, 2, 4] else [0, 2, 4, 22] else if i < 3 then [6] else [0, 2, 4, 56] else if i < 6 then if i < 5 then [6] else [0, 2, 4, 7, 8, 9] else if i < 7 then [0, 2, 4, 7, 8, 9, 10, 11, 12] else if i < 8 then [0, 2, 4, 7, 9, 92] else [6] else if i < 14 then if i < 11 then if i < 10 then [0, 2, 4, 7, 9, 13] else [0, 2, 4, 7, 9, 13, 14] else if i < 12 then [0, 4, 7, 9, 13, 14, 93, 94, 95] else if i < 13 then [0, 4, 7, 9, 13, 14, 93, 94, 95, 96] else [0, 4, 7, 9, 13, 14, 16, 93, 94, 95] else if i < 16 then if i < 15 then [0, 4, 7, 9, 13, 14, 93, 94, 95] else [0, 4, 7, 9, 13, 14, 93, 94, 95] else if i < 17 then [0, 4, 7, 9, 14, 17, 18] else if i < 18 then [7, 9, 17, 18, 19, 20] else [6]
set_option maxRecDepth 20000

noncomputable def P2 : Env := envJ (P := Try.prog) jk2 zer (fun _ => false) (fun _ => false) [con19, con24, con38, con39, con40, con41, con42, con43] []
theorem P2_ok : EnvOk Try.prog P2 := envJOk zer_ok
set_option maxHeartbeats 8000000 in
theorem apply_law_pc {op : ByteArray} {ns : List Int} {num : Int} {l : List Arr} (hm : l.length ≤ 9223372036854775807) : PC Try.prog 9 [.lit (.string op), .agg [.sl false 1 (ints .i64 ns), .lit (.int .i64 num)], .sl false 3 (arrs l)] (.lit (.bool true)) := by
  rcases Bool.eq_false_or_eq_true (gd3 op ns l) with hg | hg
  · have hx : ((decide ((op.size : Int) > 20) || decide ((ns.length : Int) > 3)) || !fewM l) = true := hg
    refine pc_ofR P2_ok mixed (kp9) (rs := [.tmp 6]) Try.func9 rfl (by kernel_rfl) (by kernel_rfl) (Nat.le_of_ble_eq_true rfl) ?_
    simp only [initF_cons, initF_nil, Nat.reduceAdd]
    refine t_name fun KF => ?_
    unfold P2
    repeat' (first
     | (with_reducible first | refine t_seq fun K => ?_ | refine t_block ?_ | refine t_scope ?_ | refine t_label ?_ | refine t_skip ?_ | refine t_exit ?_ | refine t_ret ?_ | refine t_k ?_ | refine t_gF ?_ | exact kp_nil | exact Kp.refl _ | exact kp_to | refine kp_cons ?_ | refine kp_arr ?_ | refine kp_app ?_ | refine t_p ?_ | refine t_br (fun hc => ?_) fun hc => ?_)
     | ((with_reducible first | refine t_kE (t_openE ?_) | refine t_kD (t_openD ?_) | refine t_kE ?_ | refine t_kD ?_ | refine t_gS ?_ | refine t_kL ?_ | refine t_kLF ?_ ?_ | refine t_region fun K => ?_ | refine t_cond fun A B => ?_ | refine t_drawE (id := 14) (fun _ => true) [(0, true), (1, true), (2, true), (3, true), (5, true), (6, true), (7, true), (8, true), (4, false), (9, false), (10, true), (11, true)] (by kernel_rfl) fun K => ?_ | refine t_draw (by kernel_rfl) fun K => ?_); (try (first | refine t_hideE fun KL => ?_ | refine t_hideD fun KL => ?_)); simp only [go_sem, geff, kp9, con19_f, con24_f, con38_f, con39_f, con40_f, con41_f, con42_f, con43_f, con38_c, con39_c, arrsOf_sl, hx])
     | ((with_reducible refine kp_skip ?_ ?_); rfl) | simp only [thenQ, blockQ, scopeQ, Nat.reduceEqDiff, reduceIte] | (with_reducible first | refine And.intro ?_ ?_ | intro vr))
    all_goals try (first | (with_reducible assumption) | (intros; (try simp only [Bool.and_eq_true, Bool.or_eq_true, Bool.or_eq_false_iff, Bool.not_eq_true', Bool.not_eq_false', decide_eq_true_eq, decide_eq_false_iff_not, beq_iff_eq, beq_eq_false_iff_ne, bne_iff_ne, bne_eq_false_iff_eq, ne_eq, inI64, List.length_append] at *) <;> omega))
    all_goals ((first | refine end_retE ?_ | refine end_normE ?_); simp only [fin, go_sem])
    exact LeA.refl _
  have hx : ((decide ((op.size : Int) > 20) || decide ((ns.length : Int) > 3)) || !fewM l) = false := hg
  have hf : fewM l = true := by simp only [gd3, Bool.or_eq_false_iff] at hg; simpa using hg.2
  have hsp : (decide ((ns.length : Int) > 0) = true ∧ decide (ns.getD 0 0 > 400) = true ∧ decide (ns.getD 0 0 ≤ 4096) = true) ∨ ((decide ((ns.length : Int) > 0) = false ∧ decide ((ns.length : Int) > 0) = false ∧ decide ((ns.length : Int) > 0) = false) ∨
      (decide ((ns.length : Int) > 0) = true ∧ decide (ns.getD 0 0 > 400) = false ∧ decide (ns.getD 0 0 > 400) = false) ∨ (decide ((ns.length : Int) > 0) = true ∧ decide (ns.getD 0 0 > 400) = true ∧ decide (ns.getD 0 0 ≤ 4096) = false)) := by
    cases decide ((ns.length : Int) > 0) <;> cases decide (ns.getD 0 0 > 400) <;> cases decide (ns.getD 0 0 ≤ 4096) <;> simp
  rcases hsp with ⟨y1, y2, y3⟩ | hsp
  · skip
    refine pc_ofR P2_ok mixed (kp9) (rs := [.tmp 6]) Try.func9 rfl (by kernel_rfl) (by kernel_rfl) (Nat.le_of_ble_eq_true rfl) ?_
    simp only [initF_cons, initF_nil, Nat.reduceAdd]
    refine t_name fun KF => ?_
    unfold P2
    repeat' (first
     | (with_reducible first | refine t_seq fun K => ?_ | refine t_block ?_ | refine t_scope ?_ | refine t_label ?_ | refine t_skip ?_ | refine t_exit ?_ | refine t_ret ?_ | refine t_k ?_ | refine t_gF ?_ | exact kp_nil | exact Kp.refl _ | exact kp_to | refine kp_cons ?_ | refine kp_arr ?_ | refine kp_app ?_ | refine t_p ?_ | refine t_br (fun hc => ?_) fun hc => ?_)
     | ((with_reducible first | refine t_kE (t_openE ?_) | refine t_kD (t_openD ?_) | refine t_kE ?_ | refine t_kD ?_ | refine t_gS ?_ | refine t_kL ?_ | refine t_kLF ?_ ?_ | refine t_region fun K => ?_ | refine t_cond fun A B => ?_ | refine t_drawE (id := 14) (fun _ => true) [(0, true), (1, true), (2, true), (3, true), (5, true), (6, true), (7, true), (8, true), (4, false), (9, false), (10, true), (11, true)] (by kernel_rfl) fun K => ?_ | refine t_draw (by kernel_rfl) fun K => ?_); (try (first | refine t_hideE fun KL => ?_ | refine t_hideD fun KL => ?_)); simp only [go_sem, geff, kp9, con19_f, con24_f, con38_f, con39_f, con40_f, con41_f, con42_f, con43_f, con38_c, con39_c, arrsOf_sl, hx, y1, y2, y3])
     | ((with_reducible refine kp_skip ?_ ?_); rfl) | simp only [thenQ, blockQ, scopeQ, Nat.reduceEqDiff, reduceIte] | (with_reducible first | refine And.intro ?_ ?_ | intro vr))
    all_goals try (first | (with_reducible assumption) | (intros; (try simp only [Bool.and_eq_true, Bool.or_eq_true, Bool.or_eq_false_iff, Bool.not_eq_true', Bool.not_eq_false', decide_eq_true_eq, decide_eq_false_iff_not, beq_iff_eq, beq_eq_false_iff_ne, bne_iff_ne, bne_eq_false_iff_eq, ne_eq, inI64, List.length_append] at *) <;> omega))
    all_goals ((first | refine end_retE ?_ | refine end_normE ?_); simp only [fin, go_sem])
    exact LeA.refl _
  rcases hsp with ⟨y1, y2, y3⟩ | ⟨y1, y2, y3⟩ | ⟨y1, y2, y3⟩
  all_goals
    obtain ⟨h5, hok⟩ := fewM_ok hf
    have hl1 : (l.map (·.e)).length = l.length := List.length_map ..
    have hl2 : (l.map (·.d)).length = l.length := List.length_map ..
    have hap := app_inv op ns num l
    have hao := app_okA op ns num l
    generalize hR : applyS op ns num l = R at hap hao
    have hao1 := hao.1
    have hao2 := hao.2
    have d1 : eqA ⟨R.1.e, R.1.d, R.1.x⟩ ⟨R.1.e, R.1.d, R.1.x⟩ = true := eqA_refl _
    refine pc_ofR P2_ok mixed (kp9) (rs := [.tmp 6]) Try.func9 rfl (by kernel_rfl) (by kernel_rfl) (Nat.le_of_ble_eq_true rfl) ?_
    simp only [initF_cons, initF_nil, Nat.reduceAdd]
    refine t_name fun KF => ?_
    unfold P2
    repeat' (first
     | (with_reducible first | refine t_seq fun K => ?_ | refine t_block ?_ | refine t_scope ?_ | refine t_label ?_ | refine t_skip ?_ | refine t_exit ?_ | refine t_ret ?_ | refine t_k ?_ | refine t_gF ?_ | exact kp_nil | exact Kp.refl _ | exact kp_to | refine kp_cons ?_ | refine kp_arr ?_ | refine kp_app ?_ | refine t_p ?_ | refine t_br (fun hc => ?_) fun hc => ?_)
     | ((with_reducible first | refine t_kE (t_openE ?_) | refine t_kD (t_openD ?_) | refine t_kE ?_ | refine t_kD ?_ | refine t_gS ?_ | refine t_kL ?_ | refine t_kLF ?_ ?_ | refine t_region fun K => ?_ | refine t_cond fun A B => ?_ | refine t_drawE (id := 14) (fun _ => true) [(0, true), (1, true), (2, true), (3, true), (5, true), (6, true), (7, true), (8, true), (4, false), (9, false), (10, true), (11, true)] (by kernel_rfl) fun K => ?_ | refine t_draw (by kernel_rfl) fun K => ?_); (try (first | refine t_hideE fun KL => ?_ | refine t_hideD fun KL => ?_)); simp only [go_sem, geff, kp9, con19_f, con24_f, con38_f, con39_f, con40_f, con41_f, con42_f, con43_f, con24_c, con38_c, con39_c, con40_c, con41_c, arrsOf_sl, slK_sl, arrOf_agg, arrV_def', hx, y1, y2, y3, arrs_length, hR, appV_def, d1, bne_self_eq_false])
     | ((with_reducible refine kp_skip ?_ ?_); rfl) | simp only [thenQ, blockQ, scopeQ, Nat.reduceEqDiff, reduceIte] | (with_reducible first | refine And.intro ?_ ?_ | intro vr))
    all_goals try exact hok _ (by assumption)
    all_goals try exact hao
    all_goals try (first | (with_reducible assumption) | (intros; (try simp only [Bool.and_eq_true, Bool.or_eq_true, Bool.or_eq_false_iff, Bool.not_eq_true', Bool.not_eq_false', decide_eq_true_eq, decide_eq_false_iff_not, beq_iff_eq, beq_eq_false_iff_ne, bne_iff_ne, bne_eq_false_iff_eq, ne_eq, inI64, List.length_append] at *) <;> omega))
    refine t_loopF (ι := { i : Two // i.i ≤ l.length }) (fun i => [(95, .lit (.int .i64 i.1.i)), (13, .arr 3 i.1.v), (14, .arr 4 i.1.u)]) (fun i => [.box 59 [.sl false 1 (ints .i64 ns), .lit (.int .i64 num)], .box 33 [.lit (.string R.1.e), .sl false 1 (ints .i64 R.1.d), .sl false 1 (ints .i64 R.1.x)], .box 33 [.lit (.string R.1.e), .sl false 1 (ints .i64 R.1.d), .sl false 1 (ints .i64 R.1.x)], .arr 9 1 (strs (elT l i.1.i)) i.1.v false, .arr 23 1 (ils (dmT l i.1.i)) i.1.u false]) (fun i => l.length - i.1.i) ⟨⟨0, 0, 0⟩, by simp⟩ ?_ ?_
    · refine (le_nil 13 9 1 rfl).trans ((le_nil 14 23 1 rfl).trans ?_)
      simp only [updL_nil, updL_cons, delF_top, delF_upd, Nat.reduceEqDiff, reduceIte]
      simp only [elT, dmT, List.take_zero, List.map_nil, strs_nil', ils_nil']
      refine Le.frameS (by first | rfl | (simp only [go_sem]; try rfl)) ?_
      repeat' (first | exact leF_top _ | exact (fun _ => LeR.refl _) | (with_reducible refine leF_sl ?_ ?_) | (refine leF_upd ?_ ?_))
      all_goals (first | exact LeR.top _ | exact LeR.refl _ | (refine LeR.of_eq ?_; (try simp only [go_sem]); try rfl) | ((try simp only [go_sem]); try rfl))
    rintro ⟨⟨i, v, u⟩, hi⟩ K0
    simp only at hi
    rcases Nat.lt_or_ge i l.length with hc | hc
    · have g3 : decide ((i : Int) < (l.length : Int)) = true := decide_eq_true (by omega)
      have hl3 := elT_len (cs := l) (i := i) (by omega)
      have hl4 := dmT_len (cs := l) (i := i) (by omega)
      repeat' (first
       | (with_reducible first | refine t_seq fun K => ?_ | refine t_block ?_ | refine t_scope ?_ | refine t_label ?_ | refine t_skip ?_ | refine t_exit ?_ | refine t_ret ?_ | refine t_k ?_ | refine t_gF ?_ | exact kp_nil | exact Kp.refl _ | exact kp_to | refine kp_cons ?_ | refine kp_arr ?_ | refine kp_app ?_ | refine t_p ?_ | refine t_br (fun hc => ?_) fun hc => ?_)
       | ((with_reducible first | refine t_kE (t_openE ?_) | refine t_kD (t_openD ?_) | refine t_kE ?_ | refine t_kD ?_ | refine t_gS ?_ | refine t_kL ?_ | refine t_kLF ?_ ?_ | refine t_region fun K => ?_ | refine t_cond fun A B => ?_ | refine t_drawE (id := 14) (fun _ => true) [(0, true), (1, true), (2, true), (3, true), (5, true), (6, true), (7, true), (8, true), (4, false), (9, false), (10, true), (11, true)] (by kernel_rfl) fun K => ?_ | refine t_draw (by kernel_rfl) fun K => ?_); (try (first | refine t_hideE fun KL => ?_ | refine t_hideD fun KL => ?_)); simp only [go_sem, geff, kp9, g3, Int.toNat_natCast, con19_f, con24_f, con38_f, con39_f, con40_f, con41_f, con42_f, con43_f, arrs_length, arrV_def', strs_length, ils_length, strs_append1, ils_app])
       | ((with_reducible refine kp_skip ?_ ?_); rfl) | simp only [thenQ, blockQ, scopeQ, Nat.reduceEqDiff, reduceIte] | (with_reducible first | refine And.intro ?_ ?_ | intro vr))
      all_goals try (first | (with_reducible assumption) | (intros; (try simp only [Bool.and_eq_true, Bool.or_eq_true, Bool.or_eq_false_iff, Bool.not_eq_true', Bool.not_eq_false', decide_eq_true_eq, decide_eq_false_iff_not, beq_iff_eq, beq_eq_false_iff_ne, bne_iff_ne, bne_eq_false_iff_eq, ne_eq, inI64, List.length_append] at *) <;> omega))
      simp only [← elT_succ hc, ← dmT_succ hc]
      refine ⟨⟨⟨i + 1, v + 1, u + 1⟩, by simp only; omega⟩, by first | (simp only; omega) | omega, ?_⟩
      simp only [updL_nil, updL_cons, delF_top, delF_upd, Nat.reduceEqDiff, reduceIte]
      refine le_backD (by first | rfl | (simp only [go_sem]; try rfl)) (by first | exact Nat.zero_le _ | simp) (by first | rfl | simp [lowO, low_lit, low_sl, low_ref, low_arr]) ?_ ?_
      · repeat' (first | exact low_top | (refine low_upd rfl ?_))
      repeat' (first | exact leF_top _ | exact (fun _ => LeR.refl _) | (with_reducible refine leF_sl ?_ ?_) | (refine leF_upd ?_ ?_))
      all_goals (first | exact LeR.top _ | exact LeR.refl _ | (refine LeR.of_eq ?_; (try simp only [go_sem]); try rfl) | ((try simp only [go_sem]); try rfl))
    · have hie : i = l.length := by omega
      have g3 : decide ((l.length : Int) < (l.length : Int)) = false := decide_eq_false (by omega)
      rcases hap with ⟨he, -, -⟩ | hap
      · have he' : (R.2.2 != 0) = true := by simpa using he
        have hdl := dimsI_len op ns num (l.map (·.d))
        generalize hq2 : resultS op (l.map (·.e)) = q2
        generalize hq3 : dimsI op ns num (l.map (·.d)) = q3 at hdl
        repeat' (first
         | (with_reducible first | refine t_seq fun K => ?_ | refine t_block ?_ | refine t_scope ?_ | refine t_label ?_ | refine t_skip ?_ | refine t_exit ?_ | refine t_ret ?_ | refine t_k ?_ | refine t_gF ?_ | exact kp_nil | exact Kp.refl _ | exact kp_to | refine kp_cons ?_ | refine kp_arr ?_ | refine kp_app ?_ | refine t_p ?_ | refine t_br (fun hc => ?_) fun hc => ?_)
         | ((with_reducible first | refine t_kE (t_openE ?_) | refine t_kD (t_openD ?_) | refine t_kE ?_ | refine t_kD ?_ | refine t_gS ?_ | refine t_kL ?_ | refine t_kLF ?_ ?_ | refine t_region fun K => ?_ | refine t_cond fun A B => ?_ | refine t_drawE (id := 14) (fun _ => true) [(0, true), (1, true), (2, true), (3, true), (5, true), (6, true), (7, true), (8, true), (4, false), (9, false), (10, true), (11, true)] (by kernel_rfl) fun K => ?_ | refine t_draw (by kernel_rfl) fun K => ?_); (try (first | refine t_hideE fun KL => ?_ | refine t_hideD fun KL => ?_)); simp only [go_sem, geff, kp9, hie, g3, Int.toNat_natCast, con19_f, con24_f, con38_f, con39_f, con40_f, con41_f, con42_f, con43_f, con19_c, con42_c, con43_c, arrs_length, slS_sl, slK_sl, ilsOf_sl, elT_all, dmT_all, sbV_def, dV_def, hq2, hq3, he'])
         | ((with_reducible refine kp_skip ?_ ?_); rfl) | simp only [thenQ, blockQ, scopeQ, Nat.reduceEqDiff, reduceIte] | (with_reducible first | refine And.intro ?_ ?_ | intro vr))
        all_goals try (first | (with_reducible assumption) | (intros; (try simp only [Bool.and_eq_true, Bool.or_eq_true, Bool.or_eq_false_iff, Bool.not_eq_true', Bool.not_eq_false', decide_eq_true_eq, decide_eq_false_iff_not, beq_iff_eq, beq_eq_false_iff_ne, bne_iff_ne, bne_eq_false_iff_eq, ne_eq, inI64, List.length_append] at *) <;> omega))
        all_goals ((first | refine end_retE ?_ | refine end_normE ?_); simp only [fin, go_sem])
        exact LeA.refl _
      · have he' : (R.2.2 != 0) = false := by rw [hap.ok]; rfl
        have hq2 := hap.res
        have hq3 := hap.dim
        have d2 := dself' R.1.d
        repeat' (first
         | (with_reducible first | refine t_seq fun K => ?_ | refine t_block ?_ | refine t_scope ?_ | refine t_label ?_ | refine t_skip ?_ | refine t_exit ?_ | refine t_ret ?_ | refine t_k ?_ | refine t_gF ?_ | exact kp_nil | exact Kp.refl _ | exact kp_to | refine kp_cons ?_ | refine kp_arr ?_ | refine kp_app ?_ | refine t_p ?_ | refine t_br (fun hc => ?_) fun hc => ?_)
         | ((with_reducible first | refine t_kE (t_openE ?_) | refine t_kD (t_openD ?_) | refine t_kE ?_ | refine t_kD ?_ | refine t_gS ?_ | refine t_kL ?_ | refine t_kLF ?_ ?_ | refine t_region fun K => ?_ | refine t_cond fun A B => ?_ | refine t_drawE (id := 14) (fun _ => true) [(0, true), (1, true), (2, true), (3, true), (5, true), (6, true), (7, true), (8, true), (4, false), (9, false), (10, true), (11, true)] (by kernel_rfl) fun K => ?_ | refine t_draw (by kernel_rfl) fun K => ?_); (try (first | refine t_hideE fun KL => ?_ | refine t_hideD fun KL => ?_)); simp only [go_sem, geff, kp9, hie, g3, Int.toNat_natCast, con19_f, con24_f, con38_f, con39_f, con40_f, con41_f, con42_f, con43_f, con19_c, con42_c, con43_c, arrs_length, slS_sl, slK_sl, ilsOf_sl, elT_all, dmT_all, sbV_def, dV_def, hq2, hq3, he', d2, eqS_refl, beq_self_eq_true])
         | ((with_reducible refine kp_skip ?_ ?_); rfl) | simp only [thenQ, blockQ, scopeQ, Nat.reduceEqDiff, reduceIte] | (with_reducible first | refine And.intro ?_ ?_ | intro vr))
        all_goals try (first | (with_reducible assumption) | (intros; (try simp only [Bool.and_eq_true, Bool.or_eq_true, Bool.or_eq_false_iff, Bool.not_eq_true', Bool.not_eq_false', decide_eq_true_eq, decide_eq_false_iff_not, beq_iff_eq, beq_eq_false_iff_ne, bne_iff_ne, bne_eq_false_iff_eq, ne_eq, inI64, List.length_append] at *) <;> omega))
        all_goals ((first | refine end_retE ?_ | refine end_normE ?_); simp only [fin, go_sem])
        exact LeA.refl _
theorem apply_law : ∀ xs, ShL Try.prog Try.f9.params.toList xs → PC Try.prog 9 xs (.lit (.bool true))
  | [x, y, z], h => by
    obtain ⟨op, rfl, _⟩ := shv_str u9 h.1
    obtain ⟨ns, num, rfl, _⟩ := shv_nums h.2.1
    obtain ⟨l, rfl, hl, _⟩ := shv_arrs h.2.2.1
    exact apply_law_pc (by simpa [maxLen] using hl)
  | [], h => h.elim
  | [_], h => h.2.elim
  | [_, _], h => h.2.2.elim
  | _ :: _ :: _ :: _ :: _, h => h.2.2.2.elim
end Go.Proofs.Ytjlcbojpiieafaa
