/- Join. -/
import Derived.Test.YtcjjakhmpffopaaSB

set_option linter.all false

namespace Go.Proofs.Ytcjjakhmpffopaa
open Go Go.Fw
set_option maxRecDepth 20000
theorem ilsOf_two {b : Bool} {x y : List Int} : ilsOf (.sl b 1 [.sl false 1 (ints .i64 x), .sl false 1 (ints .i64 y)]) = some [x, y] := ilsOf_sl (b := b) (l := [x, y])
theorem flat_two {x y : List Int} : [x, y].flatten = x ++ y := by simp
noncomputable def con69 : PCon Try.prog where
  f := 69
  c := fun
    | [xL] => match ilsOf xL with | some L => some (L.flatten.length ≤ 1000000 ∧ L.length ≤ 1000000, .sl false 1 (ints .i64 L.flatten)) | _ => none
    | _ => none
  ok := by
    intro args p r hc hp
    split at hc
    · split at hc
      · rename_i hL
        cases hc
        exact PC.weak ((fun hp : _ ∧ _ => concat_pc hp.1 hp.2) hp) ⟨ilsOf_le hL, trivial⟩
      · cases hc
    · cases hc
  fk := fk69
theorem con69_f : con69.f = 69 := rfl
theorem con69_c {xL : AV} : con69.c [xL] = match ilsOf xL with | some L => some (L.flatten.length ≤ 1000000 ∧ L.length ≤ 1000000, .sl false 1 (ints .i64 L.flatten)) | _ => none := rfl
theorem ae_of {e : ByteArray} {x y : AV} {n : Int} {d w : List Int} {r : Arr × Int} (hx : slK .i64 x = some d) (hy : slK .i64 y = some w) (h : r = (⟨e, d, w⟩, n)) : LeA (.tup [.agg [.lit (.string e), x, y], .lit (.int .i64 n)]) (aeV r) := by
  subst h
  exact LeA.tup ⟨LeA.agg ⟨LeA.refl _, slK_le hx, slK_le hy, trivial⟩, LeA.refl _, trivial⟩
/-- The data of cells one after the other; an error where a cell is not like the sample. -/
def jnG (sm : Arr) : List Arr → List Int → List Int × Int
  | [], acc => (acc, 0)
  | c :: t, acc => if (!(eqS c.e sm.e)) = true then ([], 12) else if decide (c.d = sm.d) = false then ([], 14) else jnG sm t (acc ++ c.x)
def joinS (fr : List Int) (L : List Arr) (sm : Arr) : Arr × Int :=
  if (!(ofE sm == 0) || L.any invA) = true then (nilA, 1) else if (sizeS fr).2 ≠ 0 then (nilA, (sizeS fr).2) else if (L.length : Int) ≠ (sizeS fr).1 then (nilA, 1) else
    if (jnG sm L []).2 ≠ 0 then (nilA, (jnG sm L []).2) else if (sizeS (fr ++ sm.d)).2 ≠ 0 then (nilA, (sizeS (fr ++ sm.d)).2) else (⟨sm.e, fr ++ sm.d, (jnG sm L []).1⟩, 0)
structure Jl (sm : Arr) (L : List Arr) (G : List Int × Int) where
  i : Nat
  v : Nat
  acc : List Int
  hi : i ≤ L.length
  ha : acc.length ≤ i * 4096
  hF : jnG sm (L.drop i) acc = G
attribute [go_sem] con60_f con60_c con65_f con65_c con69_f con69_c con59_f con59_c arrOf_agg slK_sl ilsOf_two flat_two szV_def
noncomputable def E79 : Env := envJ (P := Try.prog) jk zer (fun _ => false) (fun _ => false) [con60, con65, con67, con69, con59] []
theorem E79_ok : EnvOk Try.prog E79 := envJOk zer_ok
set_option maxHeartbeats 4000000 in
theorem join_pc {fr : List Int} {L : List Arr} {sm : Arr} (hfr : fr.length ≤ 1000000) (hL : L.length ≤ 1000000) (ho : ∀ a ∈ L, okA a) (hs : okA sm) : PC Try.prog 32 [.sl false 1 (ints .i64 fr), .sl false 3 (arrs L), arrV sm] (aeV (joinS fr L sm)) := by
  generalize hR : joinS fr L sm = R
  unfold joinS at hR
  obtain ⟨s1, s2⟩ := hs
  cases h1 : (ofE sm == 0) with
  | false =>
    rw [if_pos (by simp [h1])] at hR
    simp only [arrV]
    refine pc_ofR E79_ok mixed (kp32) (rs := [.cell 6 33, .tmp 7]) Try.func32 rfl (by kernel_rfl) (by kernel_rfl) (Nat.le_of_ble_eq_true rfl) ?_
    simp only [initF_cons, initF_nil, Nat.reduceAdd]
    refine t_name fun KF => ?_
    unfold E79
    repeat' (first
     | (with_reducible first | refine t_seq fun K => ?_ | refine t_block ?_ | refine t_scope ?_ | refine t_label ?_ | refine t_skip ?_ | refine t_exit ?_ | refine t_ret ?_ | refine t_k ?_ | refine t_gF ?_ | exact kp_nil | exact Kp.refl _ | exact kp_to | refine kp_cons ?_ | refine kp_arr ?_ | refine kp_app ?_ | refine t_p ?_ | refine t_br (fun hc => ?_) fun hc => ?_)
     | ((with_reducible first | refine t_kE (t_openE ?_) | refine t_kD (t_openD ?_) | refine t_kE ?_ | refine t_kD ?_ | refine t_gS ?_ | refine t_kL ?_ | refine t_kLF ?_ ?_ | refine t_region fun K => ?_ | refine t_cond fun A B => ?_ | refine t_drawE (id := 8) (fun i => i == 0) [(0, 1), (1, 1), (2, 1), (3, 1), (4, 1), (5, 1), (6, 1), (7, 1), (8, 0), (9, 0)] (by kernel_rfl) fun K => ?_ | refine t_draw (by kernel_rfl) fun K => ?_); (try (first | refine t_hideE fun KL => ?_ | refine t_hideD fun KL => ?_)); simp only [go_sem, geff, kp32, h1, Bool.not_false])
     | ((with_reducible refine kp_skip ?_ ?_); rfl) | simp only [thenQ, blockQ, scopeQ, Nat.reduceEqDiff, reduceIte] | (with_reducible first | refine And.intro ?_ ?_ | intro vr))
    all_goals try (first | (with_reducible assumption) | (intros; (try simp only [Bool.and_eq_true, Bool.or_eq_true, Bool.or_eq_false_iff, Bool.not_eq_true', Bool.not_eq_false', decide_eq_true_eq, decide_eq_false_iff_not, beq_iff_eq, beq_eq_false_iff_ne, bne_iff_ne, bne_eq_false_iff_eq, ne_eq, inI64, List.length_append] at *) <;> omega) | (intros; (with_reducible first | refine impB_ofR ?_ | refine and_ofB ?_ ?_) <;> with_reducible first | assumption | (refine impB_ofR ?_; assumption)) | ((try simp only [Bool.and_eq_true] at vr); simp only [impB, vr, Bool.or_true, Bool.true_or, Bool.and_self, Bool.not_true, Bool.not_false, Bool.and_true]; done))
    all_goals ((first | refine end_retE ?_ | refine end_normE ?_); simp only [fin, go_sem])
    exact ae_of rfl rfl hR.symm
  | true =>
    simp only [h1, Bool.not_true, Bool.false_or] at hR
    cases h2 : L.any invA with
    | true =>
      rw [if_pos h2] at hR
      simp only [arrV]
      refine pc_ofR E79_ok mixed (kp32) (rs := [.cell 6 33, .tmp 7]) Try.func32 rfl (by kernel_rfl) (by kernel_rfl) (Nat.le_of_ble_eq_true rfl) ?_
      simp only [initF_cons, initF_nil, Nat.reduceAdd]
      refine t_name fun KF => ?_
      unfold E79
      repeat' (first
       | (with_reducible first | refine t_seq fun K => ?_ | refine t_block ?_ | refine t_scope ?_ | refine t_label ?_ | refine t_skip ?_ | refine t_exit ?_ | refine t_ret ?_ | refine t_k ?_ | refine t_gF ?_ | exact kp_nil | exact Kp.refl _ | exact kp_to | refine kp_cons ?_ | refine kp_arr ?_ | refine kp_app ?_ | refine t_p ?_ | refine t_br (fun hc => ?_) fun hc => ?_)
       | ((with_reducible first | refine t_kE (t_openE ?_) | refine t_kD (t_openD ?_) | refine t_kE ?_ | refine t_kD ?_ | refine t_gS ?_ | refine t_kL ?_ | refine t_kLF ?_ ?_ | refine t_region fun K => ?_ | refine t_cond fun A B => ?_ | refine t_drawE (id := 8) (fun i => i == 0) [(0, 1), (1, 1), (2, 1), (3, 1), (4, 1), (5, 1), (6, 1), (7, 1), (8, 0), (9, 0)] (by kernel_rfl) fun K => ?_ | refine t_draw (by kernel_rfl) fun K => ?_); (try (first | refine t_hideE fun KL => ?_ | refine t_hideD fun KL => ?_)); simp only [go_sem, geff, kp32, h1, h2, Bool.not_true, arrsOf_sl])
       | ((with_reducible refine kp_skip ?_ ?_); rfl) | simp only [thenQ, blockQ, scopeQ, Nat.reduceEqDiff, reduceIte] | (with_reducible first | refine And.intro ?_ ?_ | intro vr))
      all_goals try (first | (with_reducible assumption) | (intros; (try simp only [Bool.and_eq_true, Bool.or_eq_true, Bool.or_eq_false_iff, Bool.not_eq_true', Bool.not_eq_false', decide_eq_true_eq, decide_eq_false_iff_not, beq_iff_eq, beq_eq_false_iff_ne, bne_iff_ne, bne_eq_false_iff_eq, ne_eq, inI64, List.length_append] at *) <;> omega) | (intros; (with_reducible first | refine impB_ofR ?_ | refine and_ofB ?_ ?_) <;> with_reducible first | assumption | (refine impB_ofR ?_; assumption)) | ((try simp only [Bool.and_eq_true] at vr); simp only [impB, vr, Bool.or_true, Bool.true_or, Bool.and_self, Bool.not_true, Bool.not_false, Bool.and_true]; done))
      all_goals try exact ho _ (by assumption)
      all_goals ((first | refine end_retE ?_ | refine end_normE ?_); simp only [fin, go_sem])
      exact ae_of rfl rfl hR.symm
    | false =>
      rw [if_neg (by rw [h2]; decide)] at hR
      generalize hS : sizeS fr = q at hR
      obtain ⟨n, er⟩ := q
      simp only at hR
      by_cases e0 : er = 0
      · subst e0
        rw [if_neg (by simp)] at hR
        obtain ⟨p1, p2, p3, p4⟩ := sizeS_ok hS
        by_cases h3 : (L.length : Int) = n
        · rw [if_neg (by simp [h3])] at hR
          have h3' : ((L.length : Int) != n) = false := by rw [bne_eq_false_iff_eq]; exact h3
          have hsd := (ofE_inv (beq_iff_eq.1 h1)).2.1
          have hrow : ∀ i, i < L.length → (L.getD i nilA).x.length ≤ 4096 := fun i hi => by
            have hv : invA (L.getD i nilA) = false := by
              cases h : invA (L.getD i nilA) with
              | false => rfl
              | true => exact absurd (List.any_eq_true.2 ⟨_, getD_mem nilA hi, h⟩) (by rw [h2]; decide)
            have h0 : ofE (L.getD i nilA) = 0 := by simpa [invA] using hv
            have := (sizeS_ok (ofE_inv h0).2.1).2.2.2
            omega
          have hd6 := (sizeS_ok hsd).1
          generalize hG : jnG sm L [] = G at hR
          obtain ⟨w, e2⟩ := G
          simp only at hR
          have hfl : ([fr, sm.d] : List (List Int)).flatten.length ≤ 1000000 := by rw [flat_two, List.length_append]; omega
          simp only [arrV]
          refine pc_ofR E79_ok mixed (kp32) (rs := [.cell 6 33, .tmp 7]) Try.func32 rfl (by kernel_rfl) (by kernel_rfl) (Nat.le_of_ble_eq_true rfl) ?_
          simp only [initF_cons, initF_nil, Nat.reduceAdd]
          refine t_name fun KF => ?_
          unfold E79
          repeat' (first
           | (with_reducible first | refine t_seq fun K => ?_ | refine t_block ?_ | refine t_scope ?_ | refine t_label ?_ | refine t_skip ?_ | refine t_exit ?_ | refine t_ret ?_ | refine t_k ?_ | refine t_gF ?_ | exact kp_nil | exact Kp.refl _ | exact kp_to | refine kp_cons ?_ | refine kp_arr ?_ | refine kp_app ?_ | refine t_p ?_ | refine t_br (fun hc => ?_) fun hc => ?_)
           | ((with_reducible first | refine t_kE (t_openE ?_) | refine t_kD (t_openD ?_) | refine t_kE ?_ | refine t_kD ?_ | refine t_gS ?_ | refine t_kL ?_ | refine t_kLF ?_ ?_ | refine t_region fun K => ?_ | refine t_cond fun A B => ?_ | refine t_drawE (id := 8) (fun i => i == 0) [(0, 1), (1, 1), (2, 1), (3, 1), (4, 1), (5, 1), (6, 1), (7, 1), (8, 0), (9, 0)] (by kernel_rfl) fun K => ?_ | refine t_draw (by kernel_rfl) fun K => ?_); (try (first | refine t_hideE fun KL => ?_ | refine t_hideD fun KL => ?_)); simp only [go_sem, geff, kp32, h1, h2, Bool.not_true, arrsOf_sl, hS, h3', arrs_length])
           | ((with_reducible refine kp_skip ?_ ?_); rfl) | simp only [thenQ, blockQ, scopeQ, Nat.reduceEqDiff, reduceIte] | (with_reducible first | refine And.intro ?_ ?_ | intro vr))
          all_goals try (first | (with_reducible assumption) | (intros; (try simp only [Bool.and_eq_true, Bool.or_eq_true, Bool.or_eq_false_iff, Bool.not_eq_true', Bool.not_eq_false', decide_eq_true_eq, decide_eq_false_iff_not, beq_iff_eq, beq_eq_false_iff_ne, bne_iff_ne, bne_eq_false_iff_eq, ne_eq, inI64, List.length_append] at *) <;> omega) | (intros; (with_reducible first | refine impB_ofR ?_ | refine and_ofB ?_ ?_) <;> with_reducible first | assumption | (refine impB_ofR ?_; assumption)) | ((try simp only [Bool.and_eq_true] at vr); simp only [impB, vr, Bool.or_true, Bool.true_or, Bool.and_self, Bool.not_true, Bool.not_false, Bool.and_true]; done))
          all_goals try exact ho _ (by assumption)
          all_goals try (simp only [List.length_append]; omega)
          refine t_loopF (ι := Jl sm L (w, e2)) (fun i => [(49, .lit (.int .i64 i.i))]) (fun i => [.box 33 [.lit (.string sm.e), .sl false 1 (ints .i64 sm.d), .sl false 1 (ints .i64 sm.x)], .box 33 [.lit (.string ByteArray.empty), .sl true 1 [], .sl true 1 []], .box 33 [.lit (.string sm.e), .sl false 1 (ints .i64 (fr ++ sm.d)), .arr 3 i.v], .arr 3 1 (ints .i64 i.acc) i.v false]) (fun i => L.length - i.i) ⟨0, 0, [], by omega, by simp, hG⟩ ?_ ?_
          · refine (le_nilB 2 2 3 1 (cs := [.lit (.string sm.e), .sl false 1 (ints .i64 (fr ++ sm.d)), .sl true 1 []]) rfl (by simp) nil_sl).trans ?_
            simp only [updL_nil, updL_cons, delF_top, delF_upd, Nat.reduceEqDiff, reduceIte]
            simp only [ints_nil]
            refine Le.frameS (by first | rfl | (simp only [go_sem]; try rfl)) ?_
            repeat' (first | exact leF_top _ | exact (fun _ => LeR.refl _) | (with_reducible refine leF_sl ?_ ?_) | (refine leF_upd ?_ ?_))
            all_goals (first | exact LeR.top _ | exact LeR.refl _ | (refine LeR.of_eq ?_; (try simp only [go_sem]); try rfl) | ((try simp only [go_sem]); try rfl))
          rintro ⟨i, v, acc, hi, ha, hF⟩ K0
          rcases Nat.lt_or_ge i L.length with hc | hc
          · rw [drop_getD nilA hc, jnG] at hF
            have g3 : decide ((i : Int) < (L.length : Int)) = true := decide_eq_true (by omega)
            have hx := hrow i hc
            have o1 := ho _ (getD_mem nilA hc)
            have o1' := o1.1
            cases h5 : eqS (L.getD i nilA).e sm.e with
            | false =>
              rw [if_pos (by rw [h5]; rfl)] at hF
              cases hF
              rw [if_pos (by decide)] at hR
              repeat' (first
               | (with_reducible first | refine t_seq fun K => ?_ | refine t_block ?_ | refine t_scope ?_ | refine t_label ?_ | refine t_skip ?_ | refine t_exit ?_ | refine t_ret ?_ | refine t_k ?_ | refine t_gF ?_ | exact kp_nil | exact Kp.refl _ | exact kp_to | refine kp_cons ?_ | refine kp_arr ?_ | refine kp_app ?_ | refine t_p ?_ | refine t_br (fun hc => ?_) fun hc => ?_)
               | ((with_reducible first | refine t_kE (t_openE ?_) | refine t_kD (t_openD ?_) | refine t_kE ?_ | refine t_kD ?_ | refine t_gS ?_ | refine t_kL ?_ | refine t_kLF ?_ ?_ | refine t_region fun K => ?_ | refine t_cond fun A B => ?_ | refine t_drawE (id := 8) (fun i => i == 0) [(0, 1), (1, 1), (2, 1), (3, 1), (4, 1), (5, 1), (6, 1), (7, 1), (8, 0), (9, 0)] (by kernel_rfl) fun K => ?_ | refine t_draw (by kernel_rfl) fun K => ?_); (try (first | refine t_hideE fun KL => ?_ | refine t_hideD fun KL => ?_)); simp only [go_sem, geff, kp32, g3, h5, Int.toNat_natCast, arrs_length, arrV, Bool.not_false])
               | ((with_reducible refine kp_skip ?_ ?_); rfl) | simp only [thenQ, blockQ, scopeQ, Nat.reduceEqDiff, reduceIte] | (with_reducible first | refine And.intro ?_ ?_ | intro vr))
              all_goals try (first | (with_reducible assumption) | (intros; (try simp only [Bool.and_eq_true, Bool.or_eq_true, Bool.or_eq_false_iff, Bool.not_eq_true', Bool.not_eq_false', decide_eq_true_eq, decide_eq_false_iff_not, beq_iff_eq, beq_eq_false_iff_ne, bne_iff_ne, bne_eq_false_iff_eq, ne_eq, inI64, List.length_append] at *) <;> omega) | (intros; (with_reducible first | refine impB_ofR ?_ | refine and_ofB ?_ ?_) <;> with_reducible first | assumption | (refine impB_ofR ?_; assumption)) | ((try simp only [Bool.and_eq_true] at vr); simp only [impB, vr, Bool.or_true, Bool.true_or, Bool.and_self, Bool.not_true, Bool.not_false, Bool.and_true]; done))
              all_goals ((first | refine end_retE ?_ | refine end_normE ?_); simp only [fin, go_sem])
              exact ae_of rfl rfl hR.symm
            | true =>
              rw [if_neg (by rw [h5]; decide)] at hF
              cases h6 : decide ((L.getD i nilA).d = sm.d) with
              | false =>
                rw [if_pos h6] at hF
                cases hF
                rw [if_pos (by decide)] at hR
                repeat' (first
                 | (with_reducible first | refine t_seq fun K => ?_ | refine t_block ?_ | refine t_scope ?_ | refine t_label ?_ | refine t_skip ?_ | refine t_exit ?_ | refine t_ret ?_ | refine t_k ?_ | refine t_gF ?_ | exact kp_nil | exact Kp.refl _ | exact kp_to | refine kp_cons ?_ | refine kp_arr ?_ | refine kp_app ?_ | refine t_p ?_ | refine t_br (fun hc => ?_) fun hc => ?_)
                 | ((with_reducible first | refine t_kE (t_openE ?_) | refine t_kD (t_openD ?_) | refine t_kE ?_ | refine t_kD ?_ | refine t_gS ?_ | refine t_kL ?_ | refine t_kLF ?_ ?_ | refine t_region fun K => ?_ | refine t_cond fun A B => ?_ | refine t_drawE (id := 8) (fun i => i == 0) [(0, 1), (1, 1), (2, 1), (3, 1), (4, 1), (5, 1), (6, 1), (7, 1), (8, 0), (9, 0)] (by kernel_rfl) fun K => ?_ | refine t_draw (by kernel_rfl) fun K => ?_); (try (first | refine t_hideE fun KL => ?_ | refine t_hideD fun KL => ?_)); simp only [go_sem, geff, kp32, g3, h5, h6, Int.toNat_natCast, arrs_length, arrV, Bool.not_false, Bool.not_true])
                 | ((with_reducible refine kp_skip ?_ ?_); rfl) | simp only [thenQ, blockQ, scopeQ, Nat.reduceEqDiff, reduceIte] | (with_reducible first | refine And.intro ?_ ?_ | intro vr))
                all_goals try (first | (with_reducible assumption) | (intros; (try simp only [Bool.and_eq_true, Bool.or_eq_true, Bool.or_eq_false_iff, Bool.not_eq_true', Bool.not_eq_false', decide_eq_true_eq, decide_eq_false_iff_not, beq_iff_eq, beq_eq_false_iff_ne, bne_iff_ne, bne_eq_false_iff_eq, ne_eq, inI64, List.length_append] at *) <;> omega) | (intros; (with_reducible first | refine impB_ofR ?_ | refine and_ofB ?_ ?_) <;> with_reducible first | assumption | (refine impB_ofR ?_; assumption)) | ((try simp only [Bool.and_eq_true] at vr); simp only [impB, vr, Bool.or_true, Bool.true_or, Bool.and_self, Bool.not_true, Bool.not_false, Bool.and_true]; done))
                all_goals ((first | refine end_retE ?_ | refine end_normE ?_); simp only [fin, go_sem])
                exact ae_of rfl rfl hR.symm
              | true =>
                rw [if_neg (by rw [h6]; decide)] at hF
                repeat' (first
                 | (with_reducible first | refine t_seq fun K => ?_ | refine t_block ?_ | refine t_scope ?_ | refine t_label ?_ | refine t_skip ?_ | refine t_exit ?_ | refine t_ret ?_ | refine t_k ?_ | refine t_gF ?_ | exact kp_nil | exact Kp.refl _ | exact kp_to | refine kp_cons ?_ | refine kp_arr ?_ | refine kp_app ?_ | refine t_p ?_ | refine t_br (fun hc => ?_) fun hc => ?_)
                 | ((with_reducible first | refine t_kE (t_openE ?_) | refine t_kD (t_openD ?_) | refine t_kE ?_ | refine t_kD ?_ | refine t_gS ?_ | refine t_kL ?_ | refine t_kLF ?_ ?_ | refine t_region fun K => ?_ | refine t_cond fun A B => ?_ | refine t_drawE (id := 8) (fun i => i == 0) [(0, 1), (1, 1), (2, 1), (3, 1), (4, 1), (5, 1), (6, 1), (7, 1), (8, 0), (9, 0)] (by kernel_rfl) fun K => ?_ | refine t_draw (by kernel_rfl) fun K => ?_); (try (first | refine t_hideE fun KL => ?_ | refine t_hideD fun KL => ?_)); simp only [go_sem, geff, kp32, g3, h5, h6, Int.toNat_natCast, arrs_length, arrV, Bool.not_false, Bool.not_true, ints_append])
                 | ((with_reducible refine kp_skip ?_ ?_); rfl) | simp only [thenQ, blockQ, scopeQ, Nat.reduceEqDiff, reduceIte] | (with_reducible first | refine And.intro ?_ ?_ | intro vr))
                all_goals try (first | (with_reducible assumption) | (intros; (try simp only [Bool.and_eq_true, Bool.or_eq_true, Bool.or_eq_false_iff, Bool.not_eq_true', Bool.not_eq_false', decide_eq_true_eq, decide_eq_false_iff_not, beq_iff_eq, beq_eq_false_iff_ne, bne_iff_ne, bne_eq_false_iff_eq, ne_eq, inI64, List.length_append] at *) <;> omega) | (intros; (with_reducible first | refine impB_ofR ?_ | refine and_ofB ?_ ?_) <;> with_reducible first | assumption | (refine impB_ofR ?_; assumption)) | ((try simp only [Bool.and_eq_true] at vr); simp only [impB, vr, Bool.or_true, Bool.true_or, Bool.and_self, Bool.not_true, Bool.not_false, Bool.and_true]; done))
                refine ⟨⟨i + 1, v + 1, acc ++ (L.getD i nilA).x, by omega, by rw [List.length_append]; omega, hF⟩, by first | (simp only; omega) | omega, ?_⟩
                simp only [updL_nil, updL_cons, delF_top, delF_upd, Nat.reduceEqDiff, reduceIte]
                refine le_backD (by first | rfl | (simp only [go_sem]; try rfl)) (by first | exact Nat.zero_le _ | simp) (by first | rfl | simp [lowO, low_lit, low_sl, low_ref, low_arr]) ?_ ?_
                · repeat' (first | exact low_top | (refine low_upd rfl ?_))
                repeat' (first | exact leF_top _ | exact (fun _ => LeR.refl _) | (with_reducible refine leF_sl ?_ ?_) | (refine leF_upd ?_ ?_))
                all_goals (first | exact LeR.top _ | exact LeR.refl _ | (refine LeR.of_eq ?_; (try simp only [go_sem]); try rfl) | ((try simp only [go_sem]); try rfl))
          · have g3 : decide ((i : Int) < (L.length : Int)) = false := decide_eq_false (by omega)
            rw [List.drop_eq_nil_of_le hc, jnG] at hF
            cases hF
            rw [if_neg (by simp)] at hR
            have hl2 : (fr ++ sm.d).length ≤ 1000000 := by rw [List.length_append]; omega
            generalize hS2 : sizeS (fr ++ sm.d) = q2 at hR
            obtain ⟨n2, er2⟩ := q2
            simp only at hR
            by_cases e3 : er2 = 0
            · subst e3
              rw [if_neg (by simp)] at hR
              repeat' (first
               | (with_reducible first | refine t_seq fun K => ?_ | refine t_block ?_ | refine t_scope ?_ | refine t_label ?_ | refine t_skip ?_ | refine t_exit ?_ | refine t_ret ?_ | refine t_k ?_ | refine t_gF ?_ | exact kp_nil | exact Kp.refl _ | exact kp_to | refine kp_cons ?_ | refine kp_arr ?_ | refine kp_app ?_ | refine t_p ?_ | refine t_br (fun hc => ?_) fun hc => ?_)
               | ((with_reducible first | refine t_kE (t_openE ?_) | refine t_kD (t_openD ?_) | refine t_kE ?_ | refine t_kD ?_ | refine t_gS ?_ | refine t_kL ?_ | refine t_kLF ?_ ?_ | refine t_region fun K => ?_ | refine t_cond fun A B => ?_ | refine t_drawE (id := 8) (fun i => i == 0) [(0, 1), (1, 1), (2, 1), (3, 1), (4, 1), (5, 1), (6, 1), (7, 1), (8, 0), (9, 0)] (by kernel_rfl) fun K => ?_ | refine t_draw (by kernel_rfl) fun K => ?_); (try (first | refine t_hideE fun KL => ?_ | refine t_hideD fun KL => ?_)); simp only [go_sem, geff, kp32, g3, hS2, Int.toNat_natCast, arrs_length])
               | ((with_reducible refine kp_skip ?_ ?_); rfl) | simp only [thenQ, blockQ, scopeQ, Nat.reduceEqDiff, reduceIte] | (with_reducible first | refine And.intro ?_ ?_ | intro vr))
              all_goals try (first | (with_reducible assumption) | (intros; (try simp only [Bool.and_eq_true, Bool.or_eq_true, Bool.or_eq_false_iff, Bool.not_eq_true', Bool.not_eq_false', decide_eq_true_eq, decide_eq_false_iff_not, beq_iff_eq, beq_eq_false_iff_ne, bne_iff_ne, bne_eq_false_iff_eq, ne_eq, inI64, List.length_append] at *) <;> omega) | (intros; (with_reducible first | refine impB_ofR ?_ | refine and_ofB ?_ ?_) <;> with_reducible first | assumption | (refine impB_ofR ?_; assumption)) | ((try simp only [Bool.and_eq_true] at vr); simp only [impB, vr, Bool.or_true, Bool.true_or, Bool.and_self, Bool.not_true, Bool.not_false, Bool.and_true]; done))
              all_goals ((first | refine end_retE ?_ | refine end_normE ?_); simp only [fin, go_sem])
              exact ae_of slK_sl slK_sl hR.symm
            · rw [if_pos e3] at hR
              have e4 : (er2 != 0) = true := bne_iff_ne.2 e3
              repeat' (first
               | (with_reducible first | refine t_seq fun K => ?_ | refine t_block ?_ | refine t_scope ?_ | refine t_label ?_ | refine t_skip ?_ | refine t_exit ?_ | refine t_ret ?_ | refine t_k ?_ | refine t_gF ?_ | exact kp_nil | exact Kp.refl _ | exact kp_to | refine kp_cons ?_ | refine kp_arr ?_ | refine kp_app ?_ | refine t_p ?_ | refine t_br (fun hc => ?_) fun hc => ?_)
               | ((with_reducible first | refine t_kE (t_openE ?_) | refine t_kD (t_openD ?_) | refine t_kE ?_ | refine t_kD ?_ | refine t_gS ?_ | refine t_kL ?_ | refine t_kLF ?_ ?_ | refine t_region fun K => ?_ | refine t_cond fun A B => ?_ | refine t_drawE (id := 8) (fun i => i == 0) [(0, 1), (1, 1), (2, 1), (3, 1), (4, 1), (5, 1), (6, 1), (7, 1), (8, 0), (9, 0)] (by kernel_rfl) fun K => ?_ | refine t_draw (by kernel_rfl) fun K => ?_); (try (first | refine t_hideE fun KL => ?_ | refine t_hideD fun KL => ?_)); simp only [go_sem, geff, kp32, g3, hS2, e4, Int.toNat_natCast, arrs_length])
               | ((with_reducible refine kp_skip ?_ ?_); rfl) | simp only [thenQ, blockQ, scopeQ, Nat.reduceEqDiff, reduceIte] | (with_reducible first | refine And.intro ?_ ?_ | intro vr))
              all_goals try (first | (with_reducible assumption) | (intros; (try simp only [Bool.and_eq_true, Bool.or_eq_true, Bool.or_eq_false_iff, Bool.not_eq_true', Bool.not_eq_false', decide_eq_true_eq, decide_eq_false_iff_not, beq_iff_eq, beq_eq_false_iff_ne, bne_iff_ne, bne_eq_false_iff_eq, ne_eq, inI64, List.length_append] at *) <;> omega) | (intros; (with_reducible first | refine impB_ofR ?_ | refine and_ofB ?_ ?_) <;> with_reducible first | assumption | (refine impB_ofR ?_; assumption)) | ((try simp only [Bool.and_eq_true] at vr); simp only [impB, vr, Bool.or_true, Bool.true_or, Bool.and_self, Bool.not_true, Bool.not_false, Bool.and_true]; done))
              all_goals ((first | refine end_retE ?_ | refine end_normE ?_); simp only [fin, go_sem])
              exact ae_of rfl rfl hR.symm
        · rw [if_pos h3] at hR
          have h3' : ((L.length : Int) != n) = true := bne_iff_ne.2 h3
          simp only [arrV]
          refine pc_ofR E79_ok mixed (kp32) (rs := [.cell 6 33, .tmp 7]) Try.func32 rfl (by kernel_rfl) (by kernel_rfl) (Nat.le_of_ble_eq_true rfl) ?_
          simp only [initF_cons, initF_nil, Nat.reduceAdd]
          refine t_name fun KF => ?_
          unfold E79
          repeat' (first
           | (with_reducible first | refine t_seq fun K => ?_ | refine t_block ?_ | refine t_scope ?_ | refine t_label ?_ | refine t_skip ?_ | refine t_exit ?_ | refine t_ret ?_ | refine t_k ?_ | refine t_gF ?_ | exact kp_nil | exact Kp.refl _ | exact kp_to | refine kp_cons ?_ | refine kp_arr ?_ | refine kp_app ?_ | refine t_p ?_ | refine t_br (fun hc => ?_) fun hc => ?_)
           | ((with_reducible first | refine t_kE (t_openE ?_) | refine t_kD (t_openD ?_) | refine t_kE ?_ | refine t_kD ?_ | refine t_gS ?_ | refine t_kL ?_ | refine t_kLF ?_ ?_ | refine t_region fun K => ?_ | refine t_cond fun A B => ?_ | refine t_drawE (id := 8) (fun i => i == 0) [(0, 1), (1, 1), (2, 1), (3, 1), (4, 1), (5, 1), (6, 1), (7, 1), (8, 0), (9, 0)] (by kernel_rfl) fun K => ?_ | refine t_draw (by kernel_rfl) fun K => ?_); (try (first | refine t_hideE fun KL => ?_ | refine t_hideD fun KL => ?_)); simp only [go_sem, geff, kp32, h1, h2, Bool.not_true, arrsOf_sl, hS, h3', arrs_length])
           | ((with_reducible refine kp_skip ?_ ?_); rfl) | simp only [thenQ, blockQ, scopeQ, Nat.reduceEqDiff, reduceIte] | (with_reducible first | refine And.intro ?_ ?_ | intro vr))
          all_goals try (first | (with_reducible assumption) | (intros; (try simp only [Bool.and_eq_true, Bool.or_eq_true, Bool.or_eq_false_iff, Bool.not_eq_true', Bool.not_eq_false', decide_eq_true_eq, decide_eq_false_iff_not, beq_iff_eq, beq_eq_false_iff_ne, bne_iff_ne, bne_eq_false_iff_eq, ne_eq, inI64, List.length_append] at *) <;> omega) | (intros; (with_reducible first | refine impB_ofR ?_ | refine and_ofB ?_ ?_) <;> with_reducible first | assumption | (refine impB_ofR ?_; assumption)) | ((try simp only [Bool.and_eq_true] at vr); simp only [impB, vr, Bool.or_true, Bool.true_or, Bool.and_self, Bool.not_true, Bool.not_false, Bool.and_true]; done))
          all_goals try exact ho _ (by assumption)
          all_goals ((first | refine end_retE ?_ | refine end_normE ?_); simp only [fin, go_sem])
          exact ae_of rfl rfl hR.symm
      · rw [if_pos e0] at hR
        have e1 : (er != 0) = true := bne_iff_ne.2 e0
        simp only [arrV]
        refine pc_ofR E79_ok mixed (kp32) (rs := [.cell 6 33, .tmp 7]) Try.func32 rfl (by kernel_rfl) (by kernel_rfl) (Nat.le_of_ble_eq_true rfl) ?_
        simp only [initF_cons, initF_nil, Nat.reduceAdd]
        refine t_name fun KF => ?_
        unfold E79
        repeat' (first
         | (with_reducible first | refine t_seq fun K => ?_ | refine t_block ?_ | refine t_scope ?_ | refine t_label ?_ | refine t_skip ?_ | refine t_exit ?_ | refine t_ret ?_ | refine t_k ?_ | refine t_gF ?_ | exact kp_nil | exact Kp.refl _ | exact kp_to | refine kp_cons ?_ | refine kp_arr ?_ | refine kp_app ?_ | refine t_p ?_ | refine t_br (fun hc => ?_) fun hc => ?_)
         | ((with_reducible first | refine t_kE (t_openE ?_) | refine t_kD (t_openD ?_) | refine t_kE ?_ | refine t_kD ?_ | refine t_gS ?_ | refine t_kL ?_ | refine t_kLF ?_ ?_ | refine t_region fun K => ?_ | refine t_cond fun A B => ?_ | refine t_drawE (id := 8) (fun i => i == 0) [(0, 1), (1, 1), (2, 1), (3, 1), (4, 1), (5, 1), (6, 1), (7, 1), (8, 0), (9, 0)] (by kernel_rfl) fun K => ?_ | refine t_draw (by kernel_rfl) fun K => ?_); (try (first | refine t_hideE fun KL => ?_ | refine t_hideD fun KL => ?_)); simp only [go_sem, geff, kp32, h1, h2, Bool.not_true, arrsOf_sl, hS, e1])
         | ((with_reducible refine kp_skip ?_ ?_); rfl) | simp only [thenQ, blockQ, scopeQ, Nat.reduceEqDiff, reduceIte] | (with_reducible first | refine And.intro ?_ ?_ | intro vr))
        all_goals try (first | (with_reducible assumption) | (intros; (try simp only [Bool.and_eq_true, Bool.or_eq_true, Bool.or_eq_false_iff, Bool.not_eq_true', Bool.not_eq_false', decide_eq_true_eq, decide_eq_false_iff_not, beq_iff_eq, beq_eq_false_iff_ne, bne_iff_ne, bne_eq_false_iff_eq, ne_eq, inI64, List.length_append] at *) <;> omega) | (intros; (with_reducible first | refine impB_ofR ?_ | refine and_ofB ?_ ?_) <;> with_reducible first | assumption | (refine impB_ofR ?_; assumption)) | ((try simp only [Bool.and_eq_true] at vr); simp only [impB, vr, Bool.or_true, Bool.true_or, Bool.and_self, Bool.not_true, Bool.not_false, Bool.and_true]; done))
        all_goals try exact ho _ (by assumption)
        all_goals ((first | refine end_retE ?_ | refine end_normE ?_); simp only [fin, go_sem])
        exact ae_of rfl rfl hR.symm
noncomputable def con32 : PCon Try.prog where
  f := 32
  c := fun
    | [xfr, xL, xsm] => match slK .i64 xfr, arrsOf xL, arrOf xsm with | some fr, some L, some sm => some (fr.length ≤ 1000000 ∧ L.length ≤ 1000000 ∧ (∀ a ∈ L, okA a) ∧ okA sm, aeV (joinS fr L sm)) | _, _, _ => none
    | _ => none
  ok := by
    intro args p r hc hp
    split at hc
    · split at hc
      · rename_i hfr hL hsm
        cases hc
        exact PC.weak ((fun hp : _ ∧ _ ∧ _ ∧ _ => join_pc hp.1 hp.2.1 hp.2.2.1 hp.2.2.2) hp) ⟨slK_le hfr, arrsOf_le hL, arrOf_le hsm, trivial⟩
      · cases hc
    · cases hc
  fk := fk32
theorem con32_f : con32.f = 32 := rfl
theorem con32_c {xfr : AV} {xL : AV} {xsm : AV} : con32.c [xfr, xL, xsm] = match slK .i64 xfr, arrsOf xL, arrOf xsm with | some fr, some L, some sm => some (fr.length ≤ 1000000 ∧ L.length ≤ 1000000 ∧ (∀ a ∈ L, okA a) ∧ okA sm, aeV (joinS fr L sm)) | _, _, _ => none := rfl
end Go.Proofs.Ytcjjakhmpffopaa

/- Join, as the document has it. -/
namespace Go.Proofs.Ytcjjakhmpffopaa
open Go Go.Fw
set_option maxRecDepth 20000
noncomputable def E80 : Env := envJ (P := Try.prog) jk zer (fun _ => false) (fun _ => false) [] []
theorem E80_ok : EnvOk Try.prog E80 := envJOk zer_ok
theorem copyJ_ec {σ : List AObj} {l : List Int} {k : AV → List AObj → Prop} (hl : l.length ≤ 1000000) (hk : k (.arr σ.length 0) (σ ++ [.arr 3 1 (ints .i64 l) 0 false])) : EC Try.prog 62 [.sl false 1 (ints .i64 l)] σ k := by
  refine EC.nilArr 3 1 ?_
  refine ec_ofR E80_ok mixed (kp62) (rs := [.tmp 2]) Try.func62 rfl (by kernel_rfl) (by kernel_rfl) (Nat.le_of_ble_eq_true rfl) ?_
  simp only [initF_cons, initF_nil, Nat.reduceAdd]
  refine t_name fun KF => ?_
  unfold E80
  repeat' (first
   | (with_reducible first | refine t_seq fun K => ?_ | refine t_block ?_ | refine t_scope ?_ | refine t_label ?_ | refine t_skip ?_ | refine t_exit ?_ | refine t_ret ?_ | refine t_k ?_ | refine t_gF ?_ | exact kp_nil | exact Kp.refl _ | exact kp_to | refine kp_cons ?_ | refine kp_arr ?_ | refine kp_app ?_ | refine t_p ?_ | refine t_br (fun hc => ?_) fun hc => ?_)
   | ((with_reducible first | refine t_kE (t_openE ?_) | refine t_kD (t_openD ?_) | refine t_kE ?_ | refine t_kD ?_ | refine t_gS ?_ | refine t_kL ?_ | refine t_kLF ?_ ?_ | refine t_region fun K => ?_ | refine t_cond fun A B => ?_ | refine t_draw (by kernel_rfl) fun K => ?_); (try (first | refine t_hideE fun KL => ?_ | refine t_hideD fun KL => ?_)); simp only [go_sem, geff, kp62])
   | ((with_reducible refine kp_skip ?_ ?_); rfl) | simp only [thenQ, blockQ, scopeQ, Nat.reduceEqDiff, reduceIte] | (with_reducible first | refine And.intro ?_ ?_ | intro vr))
  all_goals try (first | (with_reducible assumption) | (intros; (try simp only [Bool.and_eq_true, Bool.or_eq_true, Bool.or_eq_false_iff, Bool.not_eq_true', Bool.not_eq_false', decide_eq_true_eq, decide_eq_false_iff_not, beq_iff_eq, beq_eq_false_iff_ne, bne_iff_ne, bne_eq_false_iff_eq, ne_eq, inI64, List.length_append] at *) <;> omega) | (intros; (with_reducible first | refine impB_ofR ?_ | refine and_ofB ?_ ?_) <;> with_reducible first | assumption | (refine impB_ofR ?_; assumption)) | ((try simp only [Bool.and_eq_true] at vr); simp only [impB, vr, Bool.or_true, Bool.true_or, Bool.and_self, Bool.not_true, Bool.not_false, Bool.and_true]; done))
  all_goals ((first | refine end_retE ?_ | refine end_normE ?_); simp only [fin, go_sem])
  exact .inl hk
noncomputable def ecn62 : ECon Try.prog where
  f := 62
  c := fun args σ k => match args with
    | [xl] => match slK .i64 xl with | some l => l.length ≤ 1000000 ∧ k (.arr σ.length 0) (σ ++ [.arr 3 1 (ints .i64 l) 0 false]) | _ => False
    | _ => False
  ok := by
    intro args σ k h
    split at h
    · split at h
      · rename_i hl
        exact EC.weak (copyJ_ec h.1 h.2) (LeRL.cons (slK_leR hl) (LeRL.nil))
      · exact h.elim
    · exact h.elim
  fk := fk62
theorem ecn62_f : ecn62.f = 62 := rfl
theorem ecn62_c {xl : AV} {σ : List AObj} {k : AV → List AObj → Prop} : ecn62.c [xl] σ k = match slK .i64 xl with | some l => l.length ≤ 1000000 ∧ k (.arr σ.length 0) (σ ++ [.arr 3 1 (ints .i64 l) 0 false]) | _ => False := rfl
/-- What has come of cells that are like the sample. -/
theorem jnG_ok {sm : Arr} {m : Int} (hm : sizeS sm.d = (m, 0)) : ∀ (L : List Arr) (acc w : List Int), jnG sm L acc = (w, 0) → (∀ c ∈ L, ofE c = 0) →
    (w.length : Int) = acc.length + L.length * m ∧ ∀ n ∈ w, n ∈ acc ∨ vld sm.e n = true
  | [], acc, w, h, _ => by
    cases h
    exact ⟨by simp, fun n hn => .inl hn⟩
  | c :: t, acc, w, h, hv => by
    unfold jnG at h
    split at h
    · cases h
    rename_i q1
    split at h
    · cases h
    rename_i q2
    obtain ⟨r1, r2⟩ := jnG_ok hm t (acc ++ c.x) w h (fun a ha => hv a (by simp [ha]))
    obtain ⟨_, s2, s3⟩ := ofE_inv (hv c (by simp))
    have hd : c.d = sm.d := by simpa using q2
    have he : eqS c.e sm.e = true := by simpa using q1
    rw [hd, hm] at s2
    cases s2
    refine ⟨by rw [r1, List.length_append, List.length_cons]; push_cast; rw [Int.add_mul]; omega, fun n hn => ?_⟩
    rcases r2 n hn with h' | h'
    · rcases List.mem_append.1 h' with h' | h'
      · exact .inl h'
      · refine .inr ?_
        have hb : ¬ (!vld c.e n) = true := fun hb => by
          have : bad c = true := List.any_eq_true.2 ⟨n, h', hb⟩
          rw [s3] at this; cases this
        rw [eqS_iff.1 he] at hb
        simpa using hb
    · exact .inr h'
theorem join_of {fr : List Int} {L : List Arr} {sm : Arr} {w : List Int} {n2 : Int} (hs : ofE sm = 0) (hf : sizeS fr = ((L.length : Int), 0)) (hL : ∀ c ∈ L, ofE c = 0) (hj : jnG sm L [] = (w, 0)) (h2 : sizeS (fr ++ sm.d) = (n2, 0)) :
    ofS ⟨sm.e, fr ++ sm.d, w⟩ = (⟨sm.e, fr ++ sm.d, w⟩, 0) := by
  obtain ⟨t1, t2, t3⟩ := ofE_inv hs
  obtain ⟨r1, r2⟩ := jnG_ok t2 L [] w hj hL
  have e1 := (sizeS_ok h2).2.2.1
  rw [prI_app, ← (sizeS_ok hf).2.2.1, ← (sizeS_ok t2).2.2.1] at e1
  have h0 : ofE ⟨sm.e, fr ++ sm.d, w⟩ = 0 := by
    unfold ofE
    rw [if_neg (by have := t1; unfold tyOk at this; show ¬ (eqS sm.e sInt || eqS sm.e sBool) = false; unfold sInt sBool; rw [this]; decide)]
    simp only [h2]
    rw [if_neg (by simp), if_neg (by rw [r1, e1]; simp), if_neg]
    intro hb
    obtain ⟨n, hn, hb⟩ := List.any_eq_true.1 hb
    rcases r2 n hn with h' | h'
    · cases h'
    · rw [h'] at hb; cases hb
  unfold ofS
  rw [if_pos h0]
structure Jv (L : List Arr) where
  i : Nat
  hi : i ≤ L.length
  hF : (L.drop i).any invA = L.any invA
structure Jr (sm : Arr) (L : List Arr) (G : List Int × Int) where
  i : Nat
  v : Nat
  acc : List Int
  hi : i ≤ L.length
  ha : acc.length ≤ i * 4096
  hF : jnG sm (L.drop i) acc = G
attribute [go_sem] con36_f con36_c con30_f con30_c con19_f con19_c con63_f con63_c ecn62_f ecn62_c aeV_def
noncomputable def E81 : Env := envJ (P := Try.prog) jk zer (fun _ => false) (fun _ => false) [con36, con30, con19, con63] [ecn62]
theorem E81_ok : EnvOk Try.prog E81 := envJOk zer_ok
set_option maxHeartbeats 4000000 in
theorem rjoin_pc {fr : List Int} {L : List Arr} {sm : Arr} (hfr : fr.length ≤ 1000000) (hL : L.length ≤ 1000000) (ho : ∀ a ∈ L, okA a) (hs : okA sm) : PC Try.prog 33 [.sl false 1 (ints .i64 fr), .sl false 3 (arrs L), arrV sm] (aeV (joinS fr L sm)) := by
  generalize hR : joinS fr L sm = R
  unfold joinS at hR
  obtain ⟨s1, s2⟩ := hs
  cases h1 : (ofE sm == 0) with
  | false =>
    rw [if_pos (by simp [h1])] at hR
    simp only [arrV]
    refine pc_ofR E81_ok mixed (kp33) (rs := [.cell 6 33, .tmp 7]) Try.func33 rfl (by kernel_rfl) (by kernel_rfl) (Nat.le_of_ble_eq_true rfl) ?_
    simp only [initF_cons, initF_nil, Nat.reduceAdd]
    refine t_name fun KF => ?_
    unfold E81
    repeat' (first
     | (with_reducible first | refine t_seq fun K => ?_ | refine t_block ?_ | refine t_scope ?_ | refine t_label ?_ | refine t_skip ?_ | refine t_exit ?_ | refine t_ret ?_ | refine t_k ?_ | refine t_gF ?_ | exact kp_nil | exact Kp.refl _ | exact kp_to | refine kp_cons ?_ | refine kp_arr ?_ | refine kp_app ?_ | refine t_p ?_ | refine t_br (fun hc => ?_) fun hc => ?_)
     | ((with_reducible first | refine t_kE (t_openE ?_) | refine t_kD (t_openD ?_) | refine t_kE ?_ | refine t_kD ?_ | refine t_gS ?_ | refine t_kL ?_ | refine t_kLF ?_ ?_ | refine t_region fun K => ?_ | refine t_cond fun A B => ?_ | refine t_drawE (id := 17) (fun i => i == 0) [(0, 1), (1, 1), (2, 1), (3, 1), (4, 1), (5, 1), (6, 1), (7, 1)] (by kernel_rfl) fun K => ?_ | refine t_drawE (id := 19) (fun i => i == 0) [(0, 1), (1, 1), (2, 1), (3, 1), (4, 1), (5, 1), (6, 1), (7, 1), (8, 1)] (by kernel_rfl) fun K => ?_ | refine t_drawE (id := 22) (fun i => i == 0) [(0, 1), (2, 1), (3, 1), (1, 0), (4, 0), (5, 1)] (by kernel_rfl) fun K => ?_ | refine t_draw (by kernel_rfl) fun K => ?_); (try (first | refine t_hideE fun KL => ?_ | refine t_hideD fun KL => ?_)); simp only [go_sem, geff, kp33, h1, Bool.not_false])
     | ((with_reducible refine kp_skip ?_ ?_); rfl) | simp only [thenQ, blockQ, scopeQ, Nat.reduceEqDiff, reduceIte] | (with_reducible first | refine And.intro ?_ ?_ | intro vr))
    all_goals try (first | (with_reducible assumption) | (intros; (try simp only [Bool.and_eq_true, Bool.or_eq_true, Bool.or_eq_false_iff, Bool.not_eq_true', Bool.not_eq_false', decide_eq_true_eq, decide_eq_false_iff_not, beq_iff_eq, beq_eq_false_iff_ne, bne_iff_ne, bne_eq_false_iff_eq, ne_eq, inI64, List.length_append] at *) <;> omega) | (intros; (with_reducible first | refine impB_ofR ?_ | refine and_ofB ?_ ?_) <;> with_reducible first | assumption | (refine impB_ofR ?_; assumption)) | ((try simp only [Bool.and_eq_true] at vr); simp only [impB, vr, Bool.or_true, Bool.true_or, Bool.and_self, Bool.not_true, Bool.not_false, Bool.and_true]; done))
    all_goals ((first | refine end_retE ?_ | refine end_normE ?_); simp only [fin, go_sem])
    exact ae_of rfl rfl hR.symm
  | true =>
    simp only [h1, Bool.not_true, Bool.false_or] at hR
    have hsd := (ofE_inv (beq_iff_eq.1 h1)).2.1
    have hd6 := (sizeS_ok hsd).1
    simp only [arrV]
    refine pc_ofR E81_ok mixed (kp33) (rs := [.cell 6 33, .tmp 7]) Try.func33 rfl (by kernel_rfl) (by kernel_rfl) (Nat.le_of_ble_eq_true rfl) ?_
    simp only [initF_cons, initF_nil, Nat.reduceAdd]
    refine t_name fun KF => ?_
    unfold E81
    repeat' (first
     | (with_reducible first | refine t_seq fun K => ?_ | refine t_block ?_ | refine t_scope ?_ | refine t_label ?_ | refine t_skip ?_ | refine t_exit ?_ | refine t_ret ?_ | refine t_k ?_ | refine t_gF ?_ | exact kp_nil | exact Kp.refl _ | exact kp_to | refine kp_cons ?_ | refine kp_arr ?_ | refine kp_app ?_ | refine t_p ?_ | refine t_br (fun hc => ?_) fun hc => ?_)
     | ((with_reducible first | refine t_kE (t_openE ?_) | refine t_kD (t_openD ?_) | refine t_kE ?_ | refine t_kD ?_ | refine t_gS ?_ | refine t_kL ?_ | refine t_kLF ?_ ?_ | refine t_region fun K => ?_ | refine t_cond fun A B => ?_ | refine t_drawE (id := 17) (fun i => i == 0) [(0, 1), (1, 1), (2, 1), (3, 1), (4, 1), (5, 1), (6, 1), (7, 1)] (by kernel_rfl) fun K => ?_ | refine t_drawE (id := 19) (fun i => i == 0) [(0, 1), (1, 1), (2, 1), (3, 1), (4, 1), (5, 1), (6, 1), (7, 1), (8, 1)] (by kernel_rfl) fun K => ?_ | refine t_drawE (id := 22) (fun i => i == 0) [(0, 1), (2, 1), (3, 1), (1, 0), (4, 0), (5, 1)] (by kernel_rfl) fun K => ?_ | refine t_draw (by kernel_rfl) fun K => ?_); (try (first | refine t_hideE fun KL => ?_ | refine t_hideD fun KL => ?_)); simp only [go_sem, geff, kp33, h1, Bool.not_true])
     | ((with_reducible refine kp_skip ?_ ?_); rfl) | simp only [thenQ, blockQ, scopeQ, Nat.reduceEqDiff, reduceIte] | (with_reducible first | refine And.intro ?_ ?_ | intro vr))
    all_goals try (first | (with_reducible assumption) | (intros; (try simp only [Bool.and_eq_true, Bool.or_eq_true, Bool.or_eq_false_iff, Bool.not_eq_true', Bool.not_eq_false', decide_eq_true_eq, decide_eq_false_iff_not, beq_iff_eq, beq_eq_false_iff_ne, bne_iff_ne, bne_eq_false_iff_eq, ne_eq, inI64, List.length_append] at *) <;> omega) | (intros; (with_reducible first | refine impB_ofR ?_ | refine and_ofB ?_ ?_) <;> with_reducible first | assumption | (refine impB_ofR ?_; assumption)) | ((try simp only [Bool.and_eq_true] at vr); simp only [impB, vr, Bool.or_true, Bool.true_or, Bool.and_self, Bool.not_true, Bool.not_false, Bool.and_true]; done))
    refine t_loopF (ι := Jv L) (fun i => [(8, .lit (.int .i64 i.i))]) (fun i => [.box 33 [.lit (.string sm.e), .sl false 1 (ints .i64 sm.d), .sl false 1 (ints .i64 sm.x)], .box 33 [.lit (.string ByteArray.empty), .sl true 1 [], .sl true 1 []]]) (fun i => L.length - i.i) ⟨0, by omega, rfl⟩ ?_ ?_
    · simp only [updL_nil, updL_cons, delF_top, delF_upd, Nat.reduceEqDiff, reduceIte]
      refine Le.frameS (by first | rfl | (simp only [go_sem]; try rfl)) ?_
      repeat' (first | exact leF_top _ | exact (fun _ => LeR.refl _) | (with_reducible refine leF_sl ?_ ?_) | (refine leF_upd ?_ ?_))
      all_goals (first | exact LeR.top _ | exact LeR.refl _ | (refine LeR.of_eq ?_; (try simp only [go_sem]); try rfl) | ((try simp only [go_sem]); try rfl))
    rintro ⟨i, hi, hF⟩ K0
    rcases Nat.lt_or_ge i L.length with hc | hc
    · rw [drop_getD nilA hc, List.any_cons] at hF
      have g3 : decide ((i : Int) < (L.length : Int)) = true := decide_eq_true (by omega)
      obtain ⟨o1, o2⟩ := ho _ (getD_mem nilA hc)
      cases h4 : (ofE (L.getD i nilA) == 0) with
      | false =>
        rw [show invA (L.getD i nilA) = true by unfold invA; rw [h4]; rfl, Bool.true_or] at hF
        rw [if_pos hF.symm] at hR
        repeat' (first
         | (with_reducible first | refine t_seq fun K => ?_ | refine t_block ?_ | refine t_scope ?_ | refine t_label ?_ | refine t_skip ?_ | refine t_exit ?_ | refine t_ret ?_ | refine t_k ?_ | refine t_gF ?_ | exact kp_nil | exact Kp.refl _ | exact kp_to | refine kp_cons ?_ | refine kp_arr ?_ | refine kp_app ?_ | refine t_p ?_ | refine t_br (fun hc => ?_) fun hc => ?_)
         | ((with_reducible first | refine t_kE (t_openE ?_) | refine t_kD (t_openD ?_) | refine t_kE ?_ | refine t_kD ?_ | refine t_gS ?_ | refine t_kL ?_ | refine t_kLF ?_ ?_ | refine t_region fun K => ?_ | refine t_cond fun A B => ?_ | refine t_drawE (id := 17) (fun i => i == 0) [(0, 1), (1, 1), (2, 1), (3, 1), (4, 1), (5, 1), (6, 1), (7, 1)] (by kernel_rfl) fun K => ?_ | refine t_drawE (id := 19) (fun i => i == 0) [(0, 1), (1, 1), (2, 1), (3, 1), (4, 1), (5, 1), (6, 1), (7, 1), (8, 1)] (by kernel_rfl) fun K => ?_ | refine t_drawE (id := 22) (fun i => i == 0) [(0, 1), (2, 1), (3, 1), (1, 0), (4, 0), (5, 1)] (by kernel_rfl) fun K => ?_ | refine t_draw (by kernel_rfl) fun K => ?_); (try (first | refine t_hideE fun KL => ?_ | refine t_hideD fun KL => ?_)); simp only [go_sem, geff, kp33, g3, h4, Int.toNat_natCast, arrs_length, arrV, Bool.not_false])
         | ((with_reducible refine kp_skip ?_ ?_); rfl) | simp only [thenQ, blockQ, scopeQ, Nat.reduceEqDiff, reduceIte] | (with_reducible first | refine And.intro ?_ ?_ | intro vr))
        all_goals try (first | (with_reducible assumption) | (intros; (try simp only [Bool.and_eq_true, Bool.or_eq_true, Bool.or_eq_false_iff, Bool.not_eq_true', Bool.not_eq_false', decide_eq_true_eq, decide_eq_false_iff_not, beq_iff_eq, beq_eq_false_iff_ne, bne_iff_ne, bne_eq_false_iff_eq, ne_eq, inI64, List.length_append] at *) <;> omega) | (intros; (with_reducible first | refine impB_ofR ?_ | refine and_ofB ?_ ?_) <;> with_reducible first | assumption | (refine impB_ofR ?_; assumption)) | ((try simp only [Bool.and_eq_true] at vr); simp only [impB, vr, Bool.or_true, Bool.true_or, Bool.and_self, Bool.not_true, Bool.not_false, Bool.and_true]; done))
        all_goals ((first | refine end_retE ?_ | refine end_normE ?_); simp only [fin, go_sem])
        exact ae_of rfl rfl hR.symm
      | true =>
        rw [show invA (L.getD i nilA) = false by unfold invA; rw [h4]; rfl, Bool.false_or] at hF
        repeat' (first
         | (with_reducible first | refine t_seq fun K => ?_ | refine t_block ?_ | refine t_scope ?_ | refine t_label ?_ | refine t_skip ?_ | refine t_exit ?_ | refine t_ret ?_ | refine t_k ?_ | refine t_gF ?_ | exact kp_nil | exact Kp.refl _ | exact kp_to | refine kp_cons ?_ | refine kp_arr ?_ | refine kp_app ?_ | refine t_p ?_ | refine t_br (fun hc => ?_) fun hc => ?_)
         | ((with_reducible first | refine t_kE (t_openE ?_) | refine t_kD (t_openD ?_) | refine t_kE ?_ | refine t_kD ?_ | refine t_gS ?_ | refine t_kL ?_ | refine t_kLF ?_ ?_ | refine t_region fun K => ?_ | refine t_cond fun A B => ?_ | refine t_drawE (id := 17) (fun i => i == 0) [(0, 1), (1, 1), (2, 1), (3, 1), (4, 1), (5, 1), (6, 1), (7, 1)] (by kernel_rfl) fun K => ?_ | refine t_drawE (id := 19) (fun i => i == 0) [(0, 1), (1, 1), (2, 1), (3, 1), (4, 1), (5, 1), (6, 1), (7, 1), (8, 1)] (by kernel_rfl) fun K => ?_ | refine t_drawE (id := 22) (fun i => i == 0) [(0, 1), (2, 1), (3, 1), (1, 0), (4, 0), (5, 1)] (by kernel_rfl) fun K => ?_ | refine t_draw (by kernel_rfl) fun K => ?_); (try (first | refine t_hideE fun KL => ?_ | refine t_hideD fun KL => ?_)); simp only [go_sem, geff, kp33, g3, h4, Int.toNat_natCast, arrs_length, arrV, Bool.not_true])
         | ((with_reducible refine kp_skip ?_ ?_); rfl) | simp only [thenQ, blockQ, scopeQ, Nat.reduceEqDiff, reduceIte] | (with_reducible first | refine And.intro ?_ ?_ | intro vr))
        all_goals try (first | (with_reducible assumption) | (intros; (try simp only [Bool.and_eq_true, Bool.or_eq_true, Bool.or_eq_false_iff, Bool.not_eq_true', Bool.not_eq_false', decide_eq_true_eq, decide_eq_false_iff_not, beq_iff_eq, beq_eq_false_iff_ne, bne_iff_ne, bne_eq_false_iff_eq, ne_eq, inI64, List.length_append] at *) <;> omega) | (intros; (with_reducible first | refine impB_ofR ?_ | refine and_ofB ?_ ?_) <;> with_reducible first | assumption | (refine impB_ofR ?_; assumption)) | ((try simp only [Bool.and_eq_true] at vr); simp only [impB, vr, Bool.or_true, Bool.true_or, Bool.and_self, Bool.not_true, Bool.not_false, Bool.and_true]; done))
        refine ⟨⟨i + 1, by omega, hF⟩, by first | (simp only; omega) | omega, ?_⟩
        simp only [updL_nil, updL_cons, delF_top, delF_upd, Nat.reduceEqDiff, reduceIte]
        refine Le.frameS (by first | rfl | (simp only [go_sem]; try rfl)) ?_
        repeat' (first | exact leF_top _ | exact (fun _ => LeR.refl _) | (with_reducible refine leF_sl ?_ ?_) | (refine leF_upd ?_ ?_))
        all_goals (first | exact LeR.top _ | exact LeR.refl _ | (refine LeR.of_eq ?_; (try simp only [go_sem]); try rfl) | ((try simp only [go_sem]); try rfl))
    · have g3 : decide ((i : Int) < (L.length : Int)) = false := decide_eq_false (by omega)
      rw [List.drop_eq_nil_of_le hc, List.any_nil] at hF
      rw [if_neg (by rw [← hF]; decide)] at hR
      have hval : ∀ c ∈ L, ofE c = 0 := fun c hcm => by
        have hv : invA c = false := by
          cases h : invA c with
          | false => rfl
          | true => exact absurd (List.any_eq_true.2 ⟨_, hcm, h⟩) (by rw [← hF]; decide)
        simpa [invA] using hv
      have hrow : ∀ i, i < L.length → (L.getD i nilA).x.length ≤ 4096 := fun i hi => by
        have := (sizeS_ok (ofE_inv (hval _ (getD_mem nilA hi))).2.1).2.2.2
        omega
      generalize hS : sizeS fr = q at hR
      obtain ⟨n, er⟩ := q
      simp only at hR
      by_cases e0 : er = 0
      · subst e0
        rw [if_neg (by simp)] at hR
        obtain ⟨p1, p2, p3, p4⟩ := sizeS_ok hS
        by_cases h3 : (L.length : Int) = n
        · rw [if_neg (by simp [h3])] at hR
          have h3' : ((L.length : Int) != n) = false := by rw [bne_eq_false_iff_eq]; exact h3
          generalize hG : jnG sm L [] = G at hR
          obtain ⟨w, e2⟩ := G
          simp only at hR
          repeat' (first
           | (with_reducible first | refine t_seq fun K => ?_ | refine t_block ?_ | refine t_scope ?_ | refine t_label ?_ | refine t_skip ?_ | refine t_exit ?_ | refine t_ret ?_ | refine t_k ?_ | refine t_gF ?_ | exact kp_nil | exact Kp.refl _ | exact kp_to | refine kp_cons ?_ | refine kp_arr ?_ | refine kp_app ?_ | refine t_p ?_ | refine t_br (fun hc => ?_) fun hc => ?_)
           | ((with_reducible first | refine t_kE (t_openE ?_) | refine t_kD (t_openD ?_) | refine t_kE ?_ | refine t_kD ?_ | refine t_gS ?_ | refine t_kL ?_ | refine t_kLF ?_ ?_ | refine t_region fun K => ?_ | refine t_cond fun A B => ?_ | refine t_drawE (id := 17) (fun i => i == 0) [(0, 1), (1, 1), (2, 1), (3, 1), (4, 1), (5, 1), (6, 1), (7, 1)] (by kernel_rfl) fun K => ?_ | refine t_drawE (id := 19) (fun i => i == 0) [(0, 1), (1, 1), (2, 1), (3, 1), (4, 1), (5, 1), (6, 1), (7, 1), (8, 1)] (by kernel_rfl) fun K => ?_ | refine t_drawE (id := 22) (fun i => i == 0) [(0, 1), (2, 1), (3, 1), (1, 0), (4, 0), (5, 1)] (by kernel_rfl) fun K => ?_ | refine t_draw (by kernel_rfl) fun K => ?_); (try (first | refine t_hideE fun KL => ?_ | refine t_hideD fun KL => ?_)); simp only [go_sem, geff, kp33, g3, hS, h3', Int.toNat_natCast, arrs_length])
           | ((with_reducible refine kp_skip ?_ ?_); rfl) | simp only [thenQ, blockQ, scopeQ, Nat.reduceEqDiff, reduceIte] | (with_reducible first | refine And.intro ?_ ?_ | intro vr))
          all_goals try (first | (with_reducible assumption) | (intros; (try simp only [Bool.and_eq_true, Bool.or_eq_true, Bool.or_eq_false_iff, Bool.not_eq_true', Bool.not_eq_false', decide_eq_true_eq, decide_eq_false_iff_not, beq_iff_eq, beq_eq_false_iff_ne, bne_iff_ne, bne_eq_false_iff_eq, ne_eq, inI64, List.length_append] at *) <;> omega) | (intros; (with_reducible first | refine impB_ofR ?_ | refine and_ofB ?_ ?_) <;> with_reducible first | assumption | (refine impB_ofR ?_; assumption)) | ((try simp only [Bool.and_eq_true] at vr); simp only [impB, vr, Bool.or_true, Bool.true_or, Bool.and_self, Bool.not_true, Bool.not_false, Bool.and_true]; done))
          refine t_loopF (ι := Jr sm L (w, e2)) (fun i => [(12, .lit (.int .i64 i.i)), (11, .arr 2 i.v)]) (fun i => [.box 33 [.lit (.string sm.e), .sl false 1 (ints .i64 sm.d), .sl false 1 (ints .i64 sm.x)], .box 33 [.lit (.string ByteArray.empty), .sl true 1 [], .sl true 1 []], .arr 3 1 (ints .i64 i.acc) i.v false]) (fun i => L.length - i.i) ⟨0, 0, [], by omega, by simp, hG⟩ ?_ ?_
          · refine (le_nil 11 3 1 rfl).trans ?_
            simp only [updL_nil, updL_cons, delF_top, delF_upd, Nat.reduceEqDiff, reduceIte]
            refine Le.frameS (by first | rfl | (simp only [go_sem]; try rfl)) ?_
            repeat' (first | exact leF_top _ | exact (fun _ => LeR.refl _) | (with_reducible refine leF_sl ?_ ?_) | (refine leF_upd ?_ ?_))
            all_goals (first | exact LeR.top _ | exact LeR.refl _ | (refine LeR.of_eq ?_; (try simp only [go_sem]); try rfl) | ((try simp only [go_sem]); try rfl))
          rintro ⟨j, v, acc, hj, ha, hF2⟩ K1
          rcases Nat.lt_or_ge j L.length with hc2 | hc2
          · rw [drop_getD nilA hc2, jnG] at hF2
            have g4 : decide ((j : Int) < n) = true := decide_eq_true (by omega)
            have hx := hrow j hc2
            obtain ⟨o1, o2⟩ := ho _ (getD_mem nilA hc2)
            cases h5 : eqS (L.getD j nilA).e sm.e with
            | false =>
              rw [if_pos (by rw [h5]; rfl)] at hF2
              cases hF2
              rw [if_pos (by decide)] at hR
              repeat' (first
               | (with_reducible first | refine t_seq fun K => ?_ | refine t_block ?_ | refine t_scope ?_ | refine t_label ?_ | refine t_skip ?_ | refine t_exit ?_ | refine t_ret ?_ | refine t_k ?_ | refine t_gF ?_ | exact kp_nil | exact Kp.refl _ | exact kp_to | refine kp_cons ?_ | refine kp_arr ?_ | refine kp_app ?_ | refine t_p ?_ | refine t_br (fun hc => ?_) fun hc => ?_)
               | ((with_reducible first | refine t_kE (t_openE ?_) | refine t_kD (t_openD ?_) | refine t_kE ?_ | refine t_kD ?_ | refine t_gS ?_ | refine t_kL ?_ | refine t_kLF ?_ ?_ | refine t_region fun K => ?_ | refine t_cond fun A B => ?_ | refine t_drawE (id := 17) (fun i => i == 0) [(0, 1), (1, 1), (2, 1), (3, 1), (4, 1), (5, 1), (6, 1), (7, 1)] (by kernel_rfl) fun K => ?_ | refine t_drawE (id := 19) (fun i => i == 0) [(0, 1), (1, 1), (2, 1), (3, 1), (4, 1), (5, 1), (6, 1), (7, 1), (8, 1)] (by kernel_rfl) fun K => ?_ | refine t_drawE (id := 22) (fun i => i == 0) [(0, 1), (2, 1), (3, 1), (1, 0), (4, 0), (5, 1)] (by kernel_rfl) fun K => ?_ | refine t_draw (by kernel_rfl) fun K => ?_); (try (first | refine t_hideE fun KL => ?_ | refine t_hideD fun KL => ?_)); simp only [go_sem, geff, kp33, g4, h5, Int.toNat_natCast, arrs_length, arrV, Bool.not_false])
               | ((with_reducible refine kp_skip ?_ ?_); rfl) | simp only [thenQ, blockQ, scopeQ, Nat.reduceEqDiff, reduceIte] | (with_reducible first | refine And.intro ?_ ?_ | intro vr))
              all_goals try (first | (with_reducible assumption) | (intros; (try simp only [Bool.and_eq_true, Bool.or_eq_true, Bool.or_eq_false_iff, Bool.not_eq_true', Bool.not_eq_false', decide_eq_true_eq, decide_eq_false_iff_not, beq_iff_eq, beq_eq_false_iff_ne, bne_iff_ne, bne_eq_false_iff_eq, ne_eq, inI64, List.length_append] at *) <;> omega) | (intros; (with_reducible first | refine impB_ofR ?_ | refine and_ofB ?_ ?_) <;> with_reducible first | assumption | (refine impB_ofR ?_; assumption)) | ((try simp only [Bool.and_eq_true] at vr); simp only [impB, vr, Bool.or_true, Bool.true_or, Bool.and_self, Bool.not_true, Bool.not_false, Bool.and_true]; done))
              all_goals ((first | refine end_retE ?_ | refine end_normE ?_); simp only [fin, go_sem])
              exact ae_of rfl rfl hR.symm
            | true =>
              rw [if_neg (by rw [h5]; decide)] at hF2
              cases h6 : decide ((L.getD j nilA).d = sm.d) with
              | false =>
                rw [if_pos h6] at hF2
                cases hF2
                rw [if_pos (by decide)] at hR
                repeat' (first
                 | (with_reducible first | refine t_seq fun K => ?_ | refine t_block ?_ | refine t_scope ?_ | refine t_label ?_ | refine t_skip ?_ | refine t_exit ?_ | refine t_ret ?_ | refine t_k ?_ | refine t_gF ?_ | exact kp_nil | exact Kp.refl _ | exact kp_to | refine kp_cons ?_ | refine kp_arr ?_ | refine kp_app ?_ | refine t_p ?_ | refine t_br (fun hc => ?_) fun hc => ?_)
                 | ((with_reducible first | refine t_kE (t_openE ?_) | refine t_kD (t_openD ?_) | refine t_kE ?_ | refine t_kD ?_ | refine t_gS ?_ | refine t_kL ?_ | refine t_kLF ?_ ?_ | refine t_region fun K => ?_ | refine t_cond fun A B => ?_ | refine t_drawE (id := 17) (fun i => i == 0) [(0, 1), (1, 1), (2, 1), (3, 1), (4, 1), (5, 1), (6, 1), (7, 1)] (by kernel_rfl) fun K => ?_ | refine t_drawE (id := 19) (fun i => i == 0) [(0, 1), (1, 1), (2, 1), (3, 1), (4, 1), (5, 1), (6, 1), (7, 1), (8, 1)] (by kernel_rfl) fun K => ?_ | refine t_drawE (id := 22) (fun i => i == 0) [(0, 1), (2, 1), (3, 1), (1, 0), (4, 0), (5, 1)] (by kernel_rfl) fun K => ?_ | refine t_draw (by kernel_rfl) fun K => ?_); (try (first | refine t_hideE fun KL => ?_ | refine t_hideD fun KL => ?_)); simp only [go_sem, geff, kp33, g4, h5, h6, Int.toNat_natCast, arrs_length, arrV, Bool.not_false, Bool.not_true])
                 | ((with_reducible refine kp_skip ?_ ?_); rfl) | simp only [thenQ, blockQ, scopeQ, Nat.reduceEqDiff, reduceIte] | (with_reducible first | refine And.intro ?_ ?_ | intro vr))
                all_goals try (first | (with_reducible assumption) | (intros; (try simp only [Bool.and_eq_true, Bool.or_eq_true, Bool.or_eq_false_iff, Bool.not_eq_true', Bool.not_eq_false', decide_eq_true_eq, decide_eq_false_iff_not, beq_iff_eq, beq_eq_false_iff_ne, bne_iff_ne, bne_eq_false_iff_eq, ne_eq, inI64, List.length_append] at *) <;> omega) | (intros; (with_reducible first | refine impB_ofR ?_ | refine and_ofB ?_ ?_) <;> with_reducible first | assumption | (refine impB_ofR ?_; assumption)) | ((try simp only [Bool.and_eq_true] at vr); simp only [impB, vr, Bool.or_true, Bool.true_or, Bool.and_self, Bool.not_true, Bool.not_false, Bool.and_true]; done))
                all_goals ((first | refine end_retE ?_ | refine end_normE ?_); simp only [fin, go_sem])
                exact ae_of rfl rfl hR.symm
              | true =>
                rw [if_neg (by rw [h6]; decide)] at hF2
                repeat' (first
                 | (with_reducible first | refine t_seq fun K => ?_ | refine t_block ?_ | refine t_scope ?_ | refine t_label ?_ | refine t_skip ?_ | refine t_exit ?_ | refine t_ret ?_ | refine t_k ?_ | refine t_gF ?_ | exact kp_nil | exact Kp.refl _ | exact kp_to | refine kp_cons ?_ | refine kp_arr ?_ | refine kp_app ?_ | refine t_p ?_ | refine t_br (fun hc => ?_) fun hc => ?_)
                 | ((with_reducible first | refine t_kE (t_openE ?_) | refine t_kD (t_openD ?_) | refine t_kE ?_ | refine t_kD ?_ | refine t_gS ?_ | refine t_kL ?_ | refine t_kLF ?_ ?_ | refine t_region fun K => ?_ | refine t_cond fun A B => ?_ | refine t_drawE (id := 17) (fun i => i == 0) [(0, 1), (1, 1), (2, 1), (3, 1), (4, 1), (5, 1), (6, 1), (7, 1)] (by kernel_rfl) fun K => ?_ | refine t_drawE (id := 19) (fun i => i == 0) [(0, 1), (1, 1), (2, 1), (3, 1), (4, 1), (5, 1), (6, 1), (7, 1), (8, 1)] (by kernel_rfl) fun K => ?_ | refine t_drawE (id := 22) (fun i => i == 0) [(0, 1), (2, 1), (3, 1), (1, 0), (4, 0), (5, 1)] (by kernel_rfl) fun K => ?_ | refine t_draw (by kernel_rfl) fun K => ?_); (try (first | refine t_hideE fun KL => ?_ | refine t_hideD fun KL => ?_)); simp only [go_sem, geff, kp33, g4, h5, h6, Int.toNat_natCast, arrs_length, arrV, Bool.not_false, Bool.not_true, ints_append])
                 | ((with_reducible refine kp_skip ?_ ?_); rfl) | simp only [thenQ, blockQ, scopeQ, Nat.reduceEqDiff, reduceIte] | (with_reducible first | refine And.intro ?_ ?_ | intro vr))
                all_goals try (first | (with_reducible assumption) | (intros; (try simp only [Bool.and_eq_true, Bool.or_eq_true, Bool.or_eq_false_iff, Bool.not_eq_true', Bool.not_eq_false', decide_eq_true_eq, decide_eq_false_iff_not, beq_iff_eq, beq_eq_false_iff_ne, bne_iff_ne, bne_eq_false_iff_eq, ne_eq, inI64, List.length_append] at *) <;> omega) | (intros; (with_reducible first | refine impB_ofR ?_ | refine and_ofB ?_ ?_) <;> with_reducible first | assumption | (refine impB_ofR ?_; assumption)) | ((try simp only [Bool.and_eq_true] at vr); simp only [impB, vr, Bool.or_true, Bool.true_or, Bool.and_self, Bool.not_true, Bool.not_false, Bool.and_true]; done))
                refine ⟨⟨j + 1, v + 1, acc ++ (L.getD j nilA).x, by omega, by rw [List.length_append]; omega, hF2⟩, by first | (simp only; omega) | omega, ?_⟩
                simp only [updL_nil, updL_cons, delF_top, delF_upd, Nat.reduceEqDiff, reduceIte]
                refine Le.frameS (by first | rfl | (simp only [go_sem]; try rfl)) ?_
                repeat' (first | exact leF_top _ | exact (fun _ => LeR.refl _) | (with_reducible refine leF_sl ?_ ?_) | (refine leF_upd ?_ ?_))
                all_goals (first | exact LeR.top _ | exact LeR.refl _ | (refine LeR.of_eq ?_; (try simp only [go_sem]); try rfl) | ((try simp only [go_sem]); try rfl))
          · have g4 : decide ((j : Int) < n) = false := decide_eq_false (by omega)
            rw [List.drop_eq_nil_of_le hc2, jnG] at hF2
            cases hF2
            rw [if_neg (by simp)] at hR
            have hl2 : (fr ++ sm.d).length ≤ 1000000 := by rw [List.length_append]; omega
            generalize hS2 : sizeS (fr ++ sm.d) = q2 at hR
            obtain ⟨n2, er2⟩ := q2
            simp only at hR
            by_cases e3 : er2 = 0
            · subst e3
              rw [if_neg (by simp)] at hR
              have hof := join_of (beq_iff_eq.1 h1) (by rw [hS, h3]) hval hG hS2
              have hw : w.length ≤ 1000000 := by
                have := (sizeS_ok (ofE_inv (by rw [← ofS_snd, hof])).2.1).2.2.2
                simp only at this
                omega
              repeat' (first
               | (with_reducible first | refine t_seq fun K => ?_ | refine t_block ?_ | refine t_scope ?_ | refine t_label ?_ | refine t_skip ?_ | refine t_exit ?_ | refine t_ret ?_ | refine t_k ?_ | refine t_gF ?_ | exact kp_nil | exact Kp.refl _ | exact kp_to | refine kp_cons ?_ | refine kp_arr ?_ | refine kp_app ?_ | refine t_p ?_ | refine t_br (fun hc => ?_) fun hc => ?_)
               | ((with_reducible first | refine t_kE (t_openE ?_) | refine t_kD (t_openD ?_) | refine t_kE ?_ | refine t_kD ?_ | refine t_gS ?_ | refine t_kL ?_ | refine t_kLF ?_ ?_ | refine t_region fun K => ?_ | refine t_cond fun A B => ?_ | refine t_drawE (id := 17) (fun i => i == 0) [(0, 1), (1, 1), (2, 1), (3, 1), (4, 1), (5, 1), (6, 1), (7, 1)] (by kernel_rfl) fun K => ?_ | refine t_drawE (id := 19) (fun i => i == 0) [(0, 1), (1, 1), (2, 1), (3, 1), (4, 1), (5, 1), (6, 1), (7, 1), (8, 1)] (by kernel_rfl) fun K => ?_ | refine t_drawE (id := 22) (fun i => i == 0) [(0, 1), (2, 1), (3, 1), (1, 0), (4, 0), (5, 1)] (by kernel_rfl) fun K => ?_ | refine t_draw (by kernel_rfl) fun K => ?_); (try (first | refine t_hideE fun KL => ?_ | refine t_hideD fun KL => ?_)); simp only [go_sem, geff, kp33, g4, hS2, Int.toNat_natCast, arrs_length, ints_append, hof, arrV])
               | ((with_reducible refine kp_skip ?_ ?_); rfl) | simp only [thenQ, blockQ, scopeQ, Nat.reduceEqDiff, reduceIte] | (with_reducible first | refine And.intro ?_ ?_ | intro vr))
              all_goals try (first | (with_reducible assumption) | (intros; (try simp only [Bool.and_eq_true, Bool.or_eq_true, Bool.or_eq_false_iff, Bool.not_eq_true', Bool.not_eq_false', decide_eq_true_eq, decide_eq_false_iff_not, beq_iff_eq, beq_eq_false_iff_ne, bne_iff_ne, bne_eq_false_iff_eq, ne_eq, inI64, List.length_append] at *) <;> omega) | (intros; (with_reducible first | refine impB_ofR ?_ | refine and_ofB ?_ ?_) <;> with_reducible first | assumption | (refine impB_ofR ?_; assumption)) | ((try simp only [Bool.and_eq_true] at vr); simp only [impB, vr, Bool.or_true, Bool.true_or, Bool.and_self, Bool.not_true, Bool.not_false, Bool.and_true]; done))
              all_goals ((first | refine end_retE ?_ | refine end_normE ?_); simp only [fin, go_sem])
              exact ae_of slK_sl slK_sl hR.symm
            · rw [if_pos e3] at hR
              have e4 : (er2 != 0) = true := bne_iff_ne.2 e3
              repeat' (first
               | (with_reducible first | refine t_seq fun K => ?_ | refine t_block ?_ | refine t_scope ?_ | refine t_label ?_ | refine t_skip ?_ | refine t_exit ?_ | refine t_ret ?_ | refine t_k ?_ | refine t_gF ?_ | exact kp_nil | exact Kp.refl _ | exact kp_to | refine kp_cons ?_ | refine kp_arr ?_ | refine kp_app ?_ | refine t_p ?_ | refine t_br (fun hc => ?_) fun hc => ?_)
               | ((with_reducible first | refine t_kE (t_openE ?_) | refine t_kD (t_openD ?_) | refine t_kE ?_ | refine t_kD ?_ | refine t_gS ?_ | refine t_kL ?_ | refine t_kLF ?_ ?_ | refine t_region fun K => ?_ | refine t_cond fun A B => ?_ | refine t_drawE (id := 17) (fun i => i == 0) [(0, 1), (1, 1), (2, 1), (3, 1), (4, 1), (5, 1), (6, 1), (7, 1)] (by kernel_rfl) fun K => ?_ | refine t_drawE (id := 19) (fun i => i == 0) [(0, 1), (1, 1), (2, 1), (3, 1), (4, 1), (5, 1), (6, 1), (7, 1), (8, 1)] (by kernel_rfl) fun K => ?_ | refine t_drawE (id := 22) (fun i => i == 0) [(0, 1), (2, 1), (3, 1), (1, 0), (4, 0), (5, 1)] (by kernel_rfl) fun K => ?_ | refine t_draw (by kernel_rfl) fun K => ?_); (try (first | refine t_hideE fun KL => ?_ | refine t_hideD fun KL => ?_)); simp only [go_sem, geff, kp33, g4, hS2, e4, Int.toNat_natCast, arrs_length, ints_append])
               | ((with_reducible refine kp_skip ?_ ?_); rfl) | simp only [thenQ, blockQ, scopeQ, Nat.reduceEqDiff, reduceIte] | (with_reducible first | refine And.intro ?_ ?_ | intro vr))
              all_goals try (first | (with_reducible assumption) | (intros; (try simp only [Bool.and_eq_true, Bool.or_eq_true, Bool.or_eq_false_iff, Bool.not_eq_true', Bool.not_eq_false', decide_eq_true_eq, decide_eq_false_iff_not, beq_iff_eq, beq_eq_false_iff_ne, bne_iff_ne, bne_eq_false_iff_eq, ne_eq, inI64, List.length_append] at *) <;> omega) | (intros; (with_reducible first | refine impB_ofR ?_ | refine and_ofB ?_ ?_) <;> with_reducible first | assumption | (refine impB_ofR ?_; assumption)) | ((try simp only [Bool.and_eq_true] at vr); simp only [impB, vr, Bool.or_true, Bool.true_or, Bool.and_self, Bool.not_true, Bool.not_false, Bool.and_true]; done))
              all_goals ((first | refine end_retE ?_ | refine end_normE ?_); simp only [fin, go_sem])
              exact ae_of rfl rfl hR.symm
        · rw [if_pos h3] at hR
          have h3' : ((L.length : Int) != n) = true := bne_iff_ne.2 h3
          repeat' (first
           | (with_reducible first | refine t_seq fun K => ?_ | refine t_block ?_ | refine t_scope ?_ | refine t_label ?_ | refine t_skip ?_ | refine t_exit ?_ | refine t_ret ?_ | refine t_k ?_ | refine t_gF ?_ | exact kp_nil | exact Kp.refl _ | exact kp_to | refine kp_cons ?_ | refine kp_arr ?_ | refine kp_app ?_ | refine t_p ?_ | refine t_br (fun hc => ?_) fun hc => ?_)
           | ((with_reducible first | refine t_kE (t_openE ?_) | refine t_kD (t_openD ?_) | refine t_kE ?_ | refine t_kD ?_ | refine t_gS ?_ | refine t_kL ?_ | refine t_kLF ?_ ?_ | refine t_region fun K => ?_ | refine t_cond fun A B => ?_ | refine t_drawE (id := 17) (fun i => i == 0) [(0, 1), (1, 1), (2, 1), (3, 1), (4, 1), (5, 1), (6, 1), (7, 1)] (by kernel_rfl) fun K => ?_ | refine t_drawE (id := 19) (fun i => i == 0) [(0, 1), (1, 1), (2, 1), (3, 1), (4, 1), (5, 1), (6, 1), (7, 1), (8, 1)] (by kernel_rfl) fun K => ?_ | refine t_drawE (id := 22) (fun i => i == 0) [(0, 1), (2, 1), (3, 1), (1, 0), (4, 0), (5, 1)] (by kernel_rfl) fun K => ?_ | refine t_draw (by kernel_rfl) fun K => ?_); (try (first | refine t_hideE fun KL => ?_ | refine t_hideD fun KL => ?_)); simp only [go_sem, geff, kp33, g3, hS, h3', Int.toNat_natCast, arrs_length])
           | ((with_reducible refine kp_skip ?_ ?_); rfl) | simp only [thenQ, blockQ, scopeQ, Nat.reduceEqDiff, reduceIte] | (with_reducible first | refine And.intro ?_ ?_ | intro vr))
          all_goals try (first | (with_reducible assumption) | (intros; (try simp only [Bool.and_eq_true, Bool.or_eq_true, Bool.or_eq_false_iff, Bool.not_eq_true', Bool.not_eq_false', decide_eq_true_eq, decide_eq_false_iff_not, beq_iff_eq, beq_eq_false_iff_ne, bne_iff_ne, bne_eq_false_iff_eq, ne_eq, inI64, List.length_append] at *) <;> omega) | (intros; (with_reducible first | refine impB_ofR ?_ | refine and_ofB ?_ ?_) <;> with_reducible first | assumption | (refine impB_ofR ?_; assumption)) | ((try simp only [Bool.and_eq_true] at vr); simp only [impB, vr, Bool.or_true, Bool.true_or, Bool.and_self, Bool.not_true, Bool.not_false, Bool.and_true]; done))
          all_goals ((first | refine end_retE ?_ | refine end_normE ?_); simp only [fin, go_sem])
          exact ae_of rfl rfl hR.symm
      · rw [if_pos e0] at hR
        have e1 : (er != 0) = true := bne_iff_ne.2 e0
        repeat' (first
         | (with_reducible first | refine t_seq fun K => ?_ | refine t_block ?_ | refine t_scope ?_ | refine t_label ?_ | refine t_skip ?_ | refine t_exit ?_ | refine t_ret ?_ | refine t_k ?_ | refine t_gF ?_ | exact kp_nil | exact Kp.refl _ | exact kp_to | refine kp_cons ?_ | refine kp_arr ?_ | refine kp_app ?_ | refine t_p ?_ | refine t_br (fun hc => ?_) fun hc => ?_)
         | ((with_reducible first | refine t_kE (t_openE ?_) | refine t_kD (t_openD ?_) | refine t_kE ?_ | refine t_kD ?_ | refine t_gS ?_ | refine t_kL ?_ | refine t_kLF ?_ ?_ | refine t_region fun K => ?_ | refine t_cond fun A B => ?_ | refine t_drawE (id := 17) (fun i => i == 0) [(0, 1), (1, 1), (2, 1), (3, 1), (4, 1), (5, 1), (6, 1), (7, 1)] (by kernel_rfl) fun K => ?_ | refine t_drawE (id := 19) (fun i => i == 0) [(0, 1), (1, 1), (2, 1), (3, 1), (4, 1), (5, 1), (6, 1), (7, 1), (8, 1)] (by kernel_rfl) fun K => ?_ | refine t_drawE (id := 22) (fun i => i == 0) [(0, 1), (2, 1), (3, 1), (1, 0), (4, 0), (5, 1)] (by kernel_rfl) fun K => ?_ | refine t_draw (by kernel_rfl) fun K => ?_); (try (first | refine t_hideE fun KL => ?_ | refine t_hideD fun KL => ?_)); simp only [go_sem, geff, kp33, g3, hS, e1, Int.toNat_natCast, arrs_length])
         | ((with_reducible refine kp_skip ?_ ?_); rfl) | simp only [thenQ, blockQ, scopeQ, Nat.reduceEqDiff, reduceIte] | (with_reducible first | refine And.intro ?_ ?_ | intro vr))
        all_goals try (first | (with_reducible assumption) | (intros; (try simp only [Bool.and_eq_true, Bool.or_eq_true, Bool.or_eq_false_iff, Bool.not_eq_true', Bool.not_eq_false', decide_eq_true_eq, decide_eq_false_iff_not, beq_iff_eq, beq_eq_false_iff_ne, bne_iff_ne, bne_eq_false_iff_eq, ne_eq, inI64, List.length_append] at *) <;> omega) | (intros; (with_reducible first | refine impB_ofR ?_ | refine and_ofB ?_ ?_) <;> with_reducible first | assumption | (refine impB_ofR ?_; assumption)) | ((try simp only [Bool.and_eq_true] at vr); simp only [impB, vr, Bool.or_true, Bool.true_or, Bool.and_self, Bool.not_true, Bool.not_false, Bool.and_true]; done))
        all_goals ((first | refine end_retE ?_ | refine end_normE ?_); simp only [fin, go_sem])
        exact ae_of rfl rfl hR.symm
noncomputable def con33 : PCon Try.prog where
  f := 33
  c := fun
    | [xfr, xL, xsm] => match slK .i64 xfr, arrsOf xL, arrOf xsm with | some fr, some L, some sm => some (fr.length ≤ 1000000 ∧ L.length ≤ 1000000 ∧ (∀ a ∈ L, okA a) ∧ okA sm, aeV (joinS fr L sm)) | _, _, _ => none
    | _ => none
  ok := by
    intro args p r hc hp
    split at hc
    · split at hc
      · rename_i hfr hL hsm
        cases hc
        exact PC.weak ((fun hp : _ ∧ _ ∧ _ ∧ _ => rjoin_pc hp.1 hp.2.1 hp.2.2.1 hp.2.2.2) hp) ⟨slK_le hfr, arrsOf_le hL, arrOf_le hsm, trivial⟩
      · cases hc
    · cases hc
  fk := fk33
theorem con33_f : con33.f = 33 := rfl
theorem con33_c {xfr : AV} {xL : AV} {xsm : AV} : con33.c [xfr, xL, xsm] = match slK .i64 xfr, arrsOf xL, arrOf xsm with | some fr, some L, some sm => some (fr.length ≤ 1000000 ∧ L.length ≤ 1000000 ∧ (∀ a ∈ L, okA a) ∧ okA sm, aeV (joinS fr L sm)) | _, _, _ => none := rfl
end Go.Proofs.Ytcjjakhmpffopaa

/- CellsJoin. -/
namespace Go.Proofs.Ytcjjakhmpffopaa
open Go Go.Fw
set_option maxRecDepth 20000
noncomputable def con34 : PCon Try.prog where
  f := 34
  c := fun
    | [xfr] => match slK .i64 xfr with | some fr => some (fr.length ≤ 1000000, inV (indicesS fr)) | _ => none
    | _ => none
  ok := by
    intro args p r hc hp
    split at hc
    · split at hc
      · rename_i hfr
        cases hc
        exact PC.weak (indices_pc hp) ⟨slK_le hfr, trivial⟩
      · cases hc
    · cases hc
  fk := fk34
theorem con34_f : con34.f = 34 := rfl
theorem con34_c {xfr : AV} : con34.c [xfr] = match slK .i64 xfr with | some fr => some (fr.length ≤ 1000000, inV (indicesS fr)) | _ => none := rfl
attribute [go_sem] con15_f con15_c con31_f con31_c con32_f con32_c con33_f con33_c con34_f con34_c con35_f con35_c con24_f con24_c inV arrsOf_sl
noncomputable def E82 : Env := envJ (P := Try.prog) jk zer (fun _ => false) (fun _ => false) [con15, con31, con30, con32, con33, con34, con35, con24, con19] []
theorem E82_ok : EnvOk Try.prog E82 := envJOk zer_ok
theorem few_ok {a : Arr} {n : Int} (h : fewA a n = true) (hn : n ≤ 1000000) : okA a := by
  simp only [fewA, Bool.and_eq_true, decide_eq_true_eq] at h
  exact ⟨by omega, by omega⟩
structure Jf (L : List Arr) where
  i : Nat
  hi : i ≤ L.length
  hF : ∀ a ∈ L.take i, fewA a 20 = true
theorem joinS_ok {fr : List Int} {L : List Arr} {sm : Arr} : okA (joinS fr L sm).1 := by
  have hn : okA nilA := ⟨Nat.zero_le _, Nat.zero_le _⟩
  unfold joinS
  split
  · exact hn
  rename_i h1
  simp only [Bool.or_eq_true, not_or, Bool.not_eq_true, Bool.not_eq_false', beq_iff_eq] at h1
  split
  · exact hn
  rename_i h2
  split
  · exact hn
  rename_i h3
  split
  · exact hn
  rename_i h4
  split
  · exact hn
  rename_i h5
  have hval : ∀ c ∈ L, ofE c = 0 := fun c hcm => by
    have hv : invA c = false := by
      cases h : invA c with
      | false => rfl
      | true => exact absurd (List.any_eq_true.2 ⟨_, hcm, h⟩) (by rw [h1.2]; decide)
    simpa [invA] using hv
  have e2 : (sizeS fr).2 = 0 := by simpa using h2
  have e3 : (L.length : Int) = (sizeS fr).1 := by simpa using h3
  have e4 : (jnG sm L []).2 = 0 := by simpa using h4
  have e5 : (sizeS (fr ++ sm.d)).2 = 0 := by simpa using h5
  have hof := join_of (fr := fr) (L := L) (sm := sm) (w := (jnG sm L []).1) (n2 := (sizeS (fr ++ sm.d)).1) h1.1 (by rw [e3, ← e2]) hval (by rw [← e4]) (by rw [← e5])
  have h0 : ofE ⟨sm.e, fr ++ sm.d, (jnG sm L []).1⟩ = 0 := by rw [← ofS_snd, hof]
  have hs := (ofE_inv h0).2.1
  have := (sizeS_ok hs).2.2.2
  have := (sizeS_ok hs).1
  exact ⟨by show (fr ++ sm.d).length ≤ _; simp only at *; omega, by show (jnG sm L []).1.length ≤ _; simp only at *; omega⟩
theorem indices_len {fr : List Int} : ∀ x ∈ (indicesS fr).1, x.length ≤ fr.length := by
  intro x hx
  unfold indicesS at hx
  split at hx
  · cases hx
  · obtain ⟨k, _, rfl⟩ := List.mem_map.1 hx
    unfold idxS
    split
    · exact Nat.zero_le _
    · split
      · exact Nat.zero_le _
      · simp [digR_len]
theorem indices_n {fr : List Int} : (indicesS fr).1.length ≤ 4096 := by
  unfold indicesS
  split
  · exact Nat.zero_le _
  · have := (sizeS_bd fr).2
    show (inds fr _).length ≤ 4096
    rw [inds_len]; omega
theorem getD_memI {l : List (List Int)} {i : Nat} (h : i < l.length) : l.getD i [] ∈ l := by
  rw [List.getD_eq_getElem?_getD, List.getElem?_eq_getElem h]; exact List.getElem_mem h
theorem few_step {L : List Arr} {i : Nat} (hc : i < L.length) (hF : ∀ a ∈ L.take i, fewA a 20 = true) (h4 : fewA (L.getD i nilA) 20 = true) : ∀ a ∈ L.take (i + 1), fewA a 20 = true := by
  intro a ha
  rw [List.take_add_one, List.mem_append] at ha
  rcases ha with ha | ha
  · exact hF a ha
  · rw [List.getElem?_eq_getElem hc] at ha
    simp only [Option.toList_some, List.mem_singleton] at ha
    rw [ha]
    rw [List.getD_eq_getElem?_getD, List.getElem?_eq_getElem hc] at h4
    exact h4
set_option maxHeartbeats 4000000 in
theorem join_law_pc {fr : List Int} {L : List Arr} {sm : Arr} : PC Try.prog 7 [.sl false 1 (ints .i64 fr), .sl false 3 (arrs L), arrV sm] (.lit (.bool true)) := by
  simp only [arrV]
  cases hg : (decide ((fr.length : Int) > 8) || decide ((L.length : Int) > 100) || !fewA sm 100) with
  | true =>
    have hg' : (decide ((fr.length : Int) > 8) || decide ((L.length : Int) > 100) || !fewA ⟨sm.e, sm.d, sm.x⟩ 100) = true := hg
    refine pc_ofR E82_ok mixed (kp7) (rs := [.tmp 6]) Try.func7 rfl (by kernel_rfl) (by kernel_rfl) (Nat.le_of_ble_eq_true rfl) ?_
    simp only [initF_cons, initF_nil, Nat.reduceAdd]
    refine t_name fun KF => ?_
    unfold E82
    repeat' (first
     | (with_reducible first | refine t_seq fun K => ?_ | refine t_block ?_ | refine t_scope ?_ | refine t_label ?_ | refine t_skip ?_ | refine t_exit ?_ | refine t_ret ?_ | refine t_k ?_ | refine t_gF ?_ | exact kp_nil | exact Kp.refl _ | exact kp_to | refine kp_cons ?_ | refine kp_arr ?_ | refine kp_app ?_ | refine t_p ?_ | refine t_br (fun hc => ?_) fun hc => ?_)
     | ((with_reducible first | refine t_kE (t_openE ?_) | refine t_kD (t_openD ?_) | refine t_kE ?_ | refine t_kD ?_ | refine t_gS ?_ | refine t_kL ?_ | refine t_kLF ?_ ?_ | refine t_region fun K => ?_ | refine t_cond fun A B => ?_ | refine t_drawE (id := 23) (fun _ => true) [(0, 1), (1, 1), (2, 1), (3, 1), (4, 1), (5, 1), (6, 1), (7, 1), (8, 1), (9, 1)] (by kernel_rfl) fun K => ?_ | refine t_draw (by kernel_rfl) fun K => ?_); (try (first | refine t_hideE fun KL => ?_ | refine t_hideD fun KL => ?_)); simp only [go_sem, geff, kp7, arrs_length, hg'])
     | ((with_reducible refine kp_skip ?_ ?_); rfl) | simp only [thenQ, blockQ, scopeQ, Nat.reduceEqDiff, reduceIte] | (with_reducible first | refine And.intro ?_ ?_ | intro vr))
    all_goals try (first | (with_reducible assumption) | (intros; (try simp only [Bool.and_eq_true, Bool.or_eq_true, Bool.or_eq_false_iff, Bool.not_eq_true', Bool.not_eq_false', decide_eq_true_eq, decide_eq_false_iff_not, beq_iff_eq, beq_eq_false_iff_ne, bne_iff_ne, bne_eq_false_iff_eq, ne_eq, inI64, List.length_append] at *) <;> omega) | (intros; (with_reducible first | refine impB_ofR ?_ | refine and_ofB ?_ ?_) <;> with_reducible first | assumption | (refine impB_ofR ?_; assumption)) | ((try simp only [Bool.and_eq_true] at vr); simp only [impB, vr, Bool.or_true, Bool.true_or, Bool.and_self, Bool.not_true, Bool.not_false, Bool.and_true]; done))
    all_goals ((first | refine end_retE ?_ | refine end_normE ?_); simp only [fin, go_sem])
    exact LeA.refl _
  | false =>
    have hg' : (decide ((fr.length : Int) > 8) || decide ((L.length : Int) > 100) || !fewA ⟨sm.e, sm.d, sm.x⟩ 100) = false := hg
    simp only [Bool.or_eq_false_iff, decide_eq_false_iff_not, Bool.not_eq_false'] at hg
    obtain ⟨⟨g1, g2⟩, g3⟩ := hg
    obtain ⟨s1, s2⟩ := few_ok g3 (by omega)
    have hJo := joinS_ok (fr := fr) (L := L) (sm := sm)
    generalize hJ : joinS fr L sm = J at hJo
    obtain ⟨ja, je⟩ := J
    obtain ⟨jo1, jo2⟩ := hJo
    have hxl := indices_len (fr := fr)
    have hxn := indices_n (fr := fr)
    generalize hX : indicesS fr = X at hxl hxn
    obtain ⟨ix, ie⟩ := X
    simp only at hxl hxn jo1 jo2
    have hee : eqA ⟨ja.e, ja.d, ja.x⟩ ⟨ja.e, ja.d, ja.x⟩ = true := eqA_refl ja
    have hJ' : joinS fr L ⟨sm.e, sm.d, sm.x⟩ = (ja, je) := hJ
    refine pc_ofR E82_ok mixed (kp7) (rs := [.tmp 6]) Try.func7 rfl (by kernel_rfl) (by kernel_rfl) (Nat.le_of_ble_eq_true rfl) ?_
    simp only [initF_cons, initF_nil, Nat.reduceAdd]
    refine t_name fun KF => ?_
    unfold E82
    repeat' (first
     | (with_reducible first | refine t_seq fun K => ?_ | refine t_block ?_ | refine t_scope ?_ | refine t_label ?_ | refine t_skip ?_ | refine t_exit ?_ | refine t_ret ?_ | refine t_k ?_ | refine t_gF ?_ | exact kp_nil | exact Kp.refl _ | exact kp_to | refine kp_cons ?_ | refine kp_arr ?_ | refine kp_app ?_ | refine t_p ?_ | refine t_br (fun hc => ?_) fun hc => ?_)
     | ((with_reducible first | refine t_kE (t_openE ?_) | refine t_kD (t_openD ?_) | refine t_kE ?_ | refine t_kD ?_ | refine t_gS ?_ | refine t_kL ?_ | refine t_kLF ?_ ?_ | refine t_region fun K => ?_ | refine t_cond fun A B => ?_ | refine t_drawE (id := 23) (fun _ => true) [(0, 1), (1, 1), (2, 1), (3, 1), (4, 1), (5, 1), (6, 1), (7, 1), (8, 1), (9, 1)] (by kernel_rfl) fun K => ?_ | refine t_draw (by kernel_rfl) fun K => ?_); (try (first | refine t_hideE fun KL => ?_ | refine t_hideD fun KL => ?_)); simp only [go_sem, geff, kp7, arrs_length, hg'])
     | ((with_reducible refine kp_skip ?_ ?_); rfl) | simp only [thenQ, blockQ, scopeQ, Nat.reduceEqDiff, reduceIte] | (with_reducible first | refine And.intro ?_ ?_ | intro vr))
    all_goals try (first | (with_reducible assumption) | (intros; (try simp only [Bool.and_eq_true, Bool.or_eq_true, Bool.or_eq_false_iff, Bool.not_eq_true', Bool.not_eq_false', decide_eq_true_eq, decide_eq_false_iff_not, beq_iff_eq, beq_eq_false_iff_ne, bne_iff_ne, bne_eq_false_iff_eq, ne_eq, inI64, List.length_append] at *) <;> omega) | (intros; (with_reducible first | refine impB_ofR ?_ | refine and_ofB ?_ ?_) <;> with_reducible first | assumption | (refine impB_ofR ?_; assumption)) | ((try simp only [Bool.and_eq_true] at vr); simp only [impB, vr, Bool.or_true, Bool.true_or, Bool.and_self, Bool.not_true, Bool.not_false, Bool.and_true]; done))
    refine t_loopF (ι := Jf L) (fun i => [(37, .lit (.int .i64 i.i))]) (fun i => [.box 33 [.lit (.string sm.e), .sl false 1 (ints .i64 sm.d), .sl false 1 (ints .i64 sm.x)]]) (fun i => L.length - i.i) ⟨0, by omega, by simp⟩ ?_ ?_
    · simp only [updL_nil, updL_cons, delF_top, delF_upd, Nat.reduceEqDiff, reduceIte]
      refine Le.frameS (by first | rfl | (simp only [go_sem]; try rfl)) ?_
      repeat' (first | exact leF_top _ | exact (fun _ => LeR.refl _) | (with_reducible refine leF_sl ?_ ?_) | (refine leF_upd ?_ ?_))
      all_goals (first | exact LeR.top _ | exact LeR.refl _ | (refine LeR.of_eq ?_; (try simp only [go_sem]); try rfl) | ((try simp only [go_sem]); try rfl))
    rintro ⟨i, hi, hF⟩ K0
    rcases Nat.lt_or_ge i L.length with hc | hc
    · have k3 : decide ((i : Int) < (L.length : Int)) = true := decide_eq_true (by omega)
      cases h4 : fewA (L.getD i nilA) 20 with
      | false =>
        have h4' : fewA ⟨(L.getD i nilA).e, (L.getD i nilA).d, (L.getD i nilA).x⟩ 20 = false := h4
        repeat' (first
         | (with_reducible first | refine t_seq fun K => ?_ | refine t_block ?_ | refine t_scope ?_ | refine t_label ?_ | refine t_skip ?_ | refine t_exit ?_ | refine t_ret ?_ | refine t_k ?_ | refine t_gF ?_ | exact kp_nil | exact Kp.refl _ | exact kp_to | refine kp_cons ?_ | refine kp_arr ?_ | refine kp_app ?_ | refine t_p ?_ | refine t_br (fun hc => ?_) fun hc => ?_)
         | ((with_reducible first | refine t_kE (t_openE ?_) | refine t_kD (t_openD ?_) | refine t_kE ?_ | refine t_kD ?_ | refine t_gS ?_ | refine t_kL ?_ | refine t_kLF ?_ ?_ | refine t_region fun K => ?_ | refine t_cond fun A B => ?_ | refine t_drawE (id := 23) (fun _ => true) [(0, 1), (1, 1), (2, 1), (3, 1), (4, 1), (5, 1), (6, 1), (7, 1), (8, 1), (9, 1)] (by kernel_rfl) fun K => ?_ | refine t_draw (by kernel_rfl) fun K => ?_); (try (first | refine t_hideE fun KL => ?_ | refine t_hideD fun KL => ?_)); simp only [go_sem, geff, kp7, k3, h4', Int.toNat_natCast, arrs_length, arrV, Bool.not_false])
         | ((with_reducible refine kp_skip ?_ ?_); rfl) | simp only [thenQ, blockQ, scopeQ, Nat.reduceEqDiff, reduceIte] | (with_reducible first | refine And.intro ?_ ?_ | intro vr))
        all_goals try (first | (with_reducible assumption) | (intros; (try simp only [Bool.and_eq_true, Bool.or_eq_true, Bool.or_eq_false_iff, Bool.not_eq_true', Bool.not_eq_false', decide_eq_true_eq, decide_eq_false_iff_not, beq_iff_eq, beq_eq_false_iff_ne, bne_iff_ne, bne_eq_false_iff_eq, ne_eq, inI64, List.length_append] at *) <;> omega) | (intros; (with_reducible first | refine impB_ofR ?_ | refine and_ofB ?_ ?_) <;> with_reducible first | assumption | (refine impB_ofR ?_; assumption)) | ((try simp only [Bool.and_eq_true] at vr); simp only [impB, vr, Bool.or_true, Bool.true_or, Bool.and_self, Bool.not_true, Bool.not_false, Bool.and_true]; done))
        all_goals ((first | refine end_retE ?_ | refine end_normE ?_); simp only [fin, go_sem])
        exact LeA.refl _
      | true =>
        have h4' : fewA ⟨(L.getD i nilA).e, (L.getD i nilA).d, (L.getD i nilA).x⟩ 20 = true := h4
        repeat' (first
         | (with_reducible first | refine t_seq fun K => ?_ | refine t_block ?_ | refine t_scope ?_ | refine t_label ?_ | refine t_skip ?_ | refine t_exit ?_ | refine t_ret ?_ | refine t_k ?_ | refine t_gF ?_ | exact kp_nil | exact Kp.refl _ | exact kp_to | refine kp_cons ?_ | refine kp_arr ?_ | refine kp_app ?_ | refine t_p ?_ | refine t_br (fun hc => ?_) fun hc => ?_)
         | ((with_reducible first | refine t_kE (t_openE ?_) | refine t_kD (t_openD ?_) | refine t_kE ?_ | refine t_kD ?_ | refine t_gS ?_ | refine t_kL ?_ | refine t_kLF ?_ ?_ | refine t_region fun K => ?_ | refine t_cond fun A B => ?_ | refine t_drawE (id := 23) (fun _ => true) [(0, 1), (1, 1), (2, 1), (3, 1), (4, 1), (5, 1), (6, 1), (7, 1), (8, 1), (9, 1)] (by kernel_rfl) fun K => ?_ | refine t_draw (by kernel_rfl) fun K => ?_); (try (first | refine t_hideE fun KL => ?_ | refine t_hideD fun KL => ?_)); simp only [go_sem, geff, kp7, k3, h4', Int.toNat_natCast, arrs_length, arrV, Bool.not_true])
         | ((with_reducible refine kp_skip ?_ ?_); rfl) | simp only [thenQ, blockQ, scopeQ, Nat.reduceEqDiff, reduceIte] | (with_reducible first | refine And.intro ?_ ?_ | intro vr))
        all_goals try (first | (with_reducible assumption) | (intros; (try simp only [Bool.and_eq_true, Bool.or_eq_true, Bool.or_eq_false_iff, Bool.not_eq_true', Bool.not_eq_false', decide_eq_true_eq, decide_eq_false_iff_not, beq_iff_eq, beq_eq_false_iff_ne, bne_iff_ne, bne_eq_false_iff_eq, ne_eq, inI64, List.length_append] at *) <;> omega) | (intros; (with_reducible first | refine impB_ofR ?_ | refine and_ofB ?_ ?_) <;> with_reducible first | assumption | (refine impB_ofR ?_; assumption)) | ((try simp only [Bool.and_eq_true] at vr); simp only [impB, vr, Bool.or_true, Bool.true_or, Bool.and_self, Bool.not_true, Bool.not_false, Bool.and_true]; done))
        refine ⟨⟨i + 1, by omega, few_step hc hF h4⟩, by first | (simp only; omega) | omega, ?_⟩
        simp only [updL_nil, updL_cons, delF_top, delF_upd, Nat.reduceEqDiff, reduceIte]
        refine le_backD (by first | rfl | (simp only [go_sem]; try rfl)) (by first | exact Nat.zero_le _ | simp) (by first | rfl | simp [lowO, low_lit, low_sl, low_ref, low_arr]) ?_ ?_
        · repeat' (first | exact low_top | (refine low_upd rfl ?_))
        repeat' (first | exact leF_top _ | exact (fun _ => LeR.refl _) | (with_reducible refine leF_sl ?_ ?_) | (refine leF_upd ?_ ?_))
        all_goals (first | exact LeR.top _ | exact LeR.refl _ | (refine LeR.of_eq ?_; (try simp only [go_sem]); try rfl) | ((try simp only [go_sem]); try rfl))
    · have k3 : decide ((i : Int) < (L.length : Int)) = false := decide_eq_false (by omega)
      rw [List.take_of_length_le hc] at hF
      have ho : ∀ a ∈ L, okA a := fun a ha => few_ok (hF a ha) (by omega)
      generalize hS : sizeS fr = q
      obtain ⟨n, er⟩ := q
      repeat' (first
       | (with_reducible first | refine t_seq fun K => ?_ | refine t_block ?_ | refine t_scope ?_ | refine t_label ?_ | refine t_skip ?_ | refine t_exit ?_ | refine t_ret ?_ | refine t_k ?_ | refine t_gF ?_ | exact kp_nil | exact Kp.refl _ | exact kp_to | refine kp_cons ?_ | refine kp_arr ?_ | refine kp_app ?_ | refine t_p ?_ | refine t_br (fun hc => ?_) fun hc => ?_)
       | ((with_reducible first | refine t_kE (t_openE ?_) | refine t_kD (t_openD ?_) | refine t_kE ?_ | refine t_kD ?_ | refine t_gS ?_ | refine t_kL ?_ | refine t_kLF ?_ ?_ | refine t_region fun K => ?_ | refine t_cond fun A B => ?_ | refine t_drawE (id := 23) (fun _ => true) [(0, 1), (1, 1), (2, 1), (3, 1), (4, 1), (5, 1), (6, 1), (7, 1), (8, 1), (9, 1)] (by kernel_rfl) fun K => ?_ | refine t_draw (by kernel_rfl) fun K => ?_); (try (first | refine t_hideE fun KL => ?_ | refine t_hideD fun KL => ?_)); simp only [go_sem, geff, kp7, k3, hS, Int.toNat_natCast, arrs_length, hJ', hX, arrV, hee, ilsl_len, bne_self_eq_false, Bool.not_true, Bool.false_or])
       | ((with_reducible refine kp_skip ?_ ?_); rfl) | simp only [thenQ, blockQ, scopeQ, Nat.reduceEqDiff, reduceIte] | (with_reducible first | refine And.intro ?_ ?_ | intro vr))
      all_goals try (first | (with_reducible assumption) | (intros; (try simp only [Bool.and_eq_true, Bool.or_eq_true, Bool.or_eq_false_iff, Bool.not_eq_true', Bool.not_eq_false', decide_eq_true_eq, decide_eq_false_iff_not, beq_iff_eq, beq_eq_false_iff_ne, bne_iff_ne, bne_eq_false_iff_eq, ne_eq, inI64, List.length_append] at *) <;> omega) | (intros; (with_reducible first | refine impB_ofR ?_ | refine and_ofB ?_ ?_) <;> with_reducible first | assumption | (refine impB_ofR ?_; assumption)) | ((try simp only [Bool.and_eq_true] at vr); simp only [impB, vr, Bool.or_true, Bool.true_or, Bool.and_self, Bool.not_true, Bool.not_false, Bool.and_true]; done))
      all_goals try exact ho _ (by assumption)
      all_goals try exact ⟨s1, s2⟩
      all_goals try exact ⟨jo1, jo2⟩
      · skip
        all_goals ((first | refine end_retE ?_ | refine end_normE ?_); simp only [fin, go_sem])
        exact LeA.refl _
      refine t_loopF (ι := { i : Nat // i ≤ ix.length }) (fun i => [(103, .lit (.int .i64 i.1))]) (fun i => [.box 33 [.lit (.string sm.e), .sl false 1 (ints .i64 sm.d), .sl false 1 (ints .i64 sm.x)], .box 33 [.lit (.string ja.e), .sl false 1 (ints .i64 ja.d), .sl false 1 (ints .i64 ja.x)], .box 33 [.lit (.string ja.e), .sl false 1 (ints .i64 ja.d), .sl false 1 (ints .i64 ja.x)]]) (fun i => ix.length - i.1) ⟨0, by omega⟩ ?_ ?_
      · simp only [updL_nil, updL_cons, delF_top, delF_upd, Nat.reduceEqDiff, reduceIte]
        refine Le.frameS (by first | rfl | (simp only [go_sem]; try rfl)) ?_
        repeat' (first | exact leF_top _ | exact (fun _ => LeR.refl _) | (with_reducible refine leF_sl ?_ ?_) | (refine leF_upd ?_ ?_))
        all_goals (first | exact LeR.top _ | exact LeR.refl _ | (refine LeR.of_eq ?_; (try simp only [go_sem]); try rfl) | ((try simp only [go_sem]); try rfl))
      rintro ⟨j, hj⟩ K1
      rcases Nat.lt_or_ge j ix.length with hc2 | hc2
      · have k4 : decide ((j : Int) < (ix.length : Int)) = true := decide_eq_true (by omega)
        have hl := hxl _ (getD_memI hc2)
        have hl' : (ix.getD j []).length ≤ 1000000 := by omega
        have d1 : decide (ix.getD j [] = ix.getD j []) = true := by simp
        repeat' (first
         | (with_reducible first | refine t_seq fun K => ?_ | refine t_block ?_ | refine t_scope ?_ | refine t_label ?_ | refine t_skip ?_ | refine t_exit ?_ | refine t_ret ?_ | refine t_k ?_ | refine t_gF ?_ | exact kp_nil | exact Kp.refl _ | exact kp_to | refine kp_cons ?_ | refine kp_arr ?_ | refine kp_app ?_ | refine t_p ?_ | refine t_br (fun hc => ?_) fun hc => ?_)
         | ((with_reducible first | refine t_kE (t_openE ?_) | refine t_kD (t_openD ?_) | refine t_kE ?_ | refine t_kD ?_ | refine t_gS ?_ | refine t_kL ?_ | refine t_kLF ?_ ?_ | refine t_region fun K => ?_ | refine t_cond fun A B => ?_ | refine t_drawE (id := 23) (fun _ => true) [(0, 1), (1, 1), (2, 1), (3, 1), (4, 1), (5, 1), (6, 1), (7, 1), (8, 1), (9, 1)] (by kernel_rfl) fun K => ?_ | refine t_draw (by kernel_rfl) fun K => ?_); (try (first | refine t_hideE fun KL => ?_ | refine t_hideD fun KL => ?_)); simp only [go_sem, geff, kp7, k4, d1, Int.toNat_natCast, ilsl_len, Bool.not_true])
         | ((with_reducible refine kp_skip ?_ ?_); rfl) | simp only [thenQ, blockQ, scopeQ, Nat.reduceEqDiff, reduceIte] | (with_reducible first | refine And.intro ?_ ?_ | intro vr))
        all_goals try (first | (with_reducible assumption) | (intros; (try simp only [Bool.and_eq_true, Bool.or_eq_true, Bool.or_eq_false_iff, Bool.not_eq_true', Bool.not_eq_false', decide_eq_true_eq, decide_eq_false_iff_not, beq_iff_eq, beq_eq_false_iff_ne, bne_iff_ne, bne_eq_false_iff_eq, ne_eq, inI64, List.length_append] at *) <;> omega) | (intros; (with_reducible first | refine impB_ofR ?_ | refine and_ofB ?_ ?_) <;> with_reducible first | assumption | (refine impB_ofR ?_; assumption)) | ((try simp only [Bool.and_eq_true] at vr); simp only [impB, vr, Bool.or_true, Bool.true_or, Bool.and_self, Bool.not_true, Bool.not_false, Bool.and_true]; done))
        refine ⟨⟨j + 1, by omega⟩, by first | (simp only; omega) | omega, ?_⟩
        simp only [updL_nil, updL_cons, delF_top, delF_upd, Nat.reduceEqDiff, reduceIte]
        refine Le.frameS (by first | rfl | (simp only [go_sem]; try rfl)) ?_
        repeat' (first | exact leF_top _ | exact (fun _ => LeR.refl _) | (with_reducible refine leF_sl ?_ ?_) | (refine leF_upd ?_ ?_))
        all_goals (first | exact LeR.top _ | exact LeR.refl _ | (refine LeR.of_eq ?_; (try simp only [go_sem]); try rfl) | ((try simp only [go_sem]); try rfl))
      · have k4 : decide ((j : Int) < (ix.length : Int)) = false := decide_eq_false (by omega)
        repeat' (first
         | (with_reducible first | refine t_seq fun K => ?_ | refine t_block ?_ | refine t_scope ?_ | refine t_label ?_ | refine t_skip ?_ | refine t_exit ?_ | refine t_ret ?_ | refine t_k ?_ | refine t_gF ?_ | exact kp_nil | exact Kp.refl _ | exact kp_to | refine kp_cons ?_ | refine kp_arr ?_ | refine kp_app ?_ | refine t_p ?_ | refine t_br (fun hc => ?_) fun hc => ?_)
         | ((with_reducible first | refine t_kE (t_openE ?_) | refine t_kD (t_openD ?_) | refine t_kE ?_ | refine t_kD ?_ | refine t_gS ?_ | refine t_kL ?_ | refine t_kLF ?_ ?_ | refine t_region fun K => ?_ | refine t_cond fun A B => ?_ | refine t_drawE (id := 23) (fun _ => true) [(0, 1), (1, 1), (2, 1), (3, 1), (4, 1), (5, 1), (6, 1), (7, 1), (8, 1), (9, 1)] (by kernel_rfl) fun K => ?_ | refine t_draw (by kernel_rfl) fun K => ?_); (try (first | refine t_hideE fun KL => ?_ | refine t_hideD fun KL => ?_)); simp only [go_sem, geff, kp7, k4, Int.toNat_natCast, ilsl_len])
         | ((with_reducible refine kp_skip ?_ ?_); rfl) | simp only [thenQ, blockQ, scopeQ, Nat.reduceEqDiff, reduceIte] | (with_reducible first | refine And.intro ?_ ?_ | intro vr))
        all_goals try (first | (with_reducible assumption) | (intros; (try simp only [Bool.and_eq_true, Bool.or_eq_true, Bool.or_eq_false_iff, Bool.not_eq_true', Bool.not_eq_false', decide_eq_true_eq, decide_eq_false_iff_not, beq_iff_eq, beq_eq_false_iff_ne, bne_iff_ne, bne_eq_false_iff_eq, ne_eq, inI64, List.length_append] at *) <;> omega) | (intros; (with_reducible first | refine impB_ofR ?_ | refine and_ofB ?_ ?_) <;> with_reducible first | assumption | (refine impB_ofR ?_; assumption)) | ((try simp only [Bool.and_eq_true] at vr); simp only [impB, vr, Bool.or_true, Bool.true_or, Bool.and_self, Bool.not_true, Bool.not_false, Bool.and_true]; done))
        all_goals ((first | refine end_retE ?_ | refine end_normE ?_); simp only [fin, go_sem])
        exact LeA.refl _
theorem join_law : ∀ xs, ShL Try.prog Try.f7.params.toList xs → PC Try.prog 7 xs (.lit (.bool true))
  | [x, y, z], h => by
    obtain ⟨fr, rfl, _⟩ := shv_ints u23 u3 sz3 h.1
    obtain ⟨L, rfl, hm⟩ := shv_arrs h.2.1
    obtain ⟨sm, rfl, _⟩ := shv_arr h.2.2.1
    exact join_law_pc
  | [], h => h.elim
  | [_], h => h.2.elim
  | [_, _], h => h.2.2.elim
  | _ :: _ :: _ :: _ :: _, h => h.2.2.2.elim
end Go.Proofs.Ytcjjakhmpffopaa
