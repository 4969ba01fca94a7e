/- The law on joined tokens. -/
import Derived.Test.YtkkamgblakhmiaaDoorLH

set_option linter.all false

namespace Go.Proofs.YtkkamgblakhmiaaDoor
open Go Go.Fw
set_option maxRecDepth 20000

def fieldTs (P : Program) (t : TypeId) : List TypeId := match P.underlying t with
  | some (.struct fs) => fs.toList.map (·.type)
  | _ => []
theorem struct_of {P : Program} {t : TypeId} {ts : List TypeId} (hne : ts ≠ []) (h : fieldTs P t = ts) : ∃ fs : Array Field, P.underlying t = some (.struct fs) ∧ fs.toList.map (·.type) = ts := by
  unfold fieldTs at h
  split at h
  · rename_i e; exact ⟨_, e, h⟩
  · exact absurd h.symm hne
theorem sh_fields {P : Program} {t : TypeId} {ts : List TypeId} {xs : List AV} (hne : ts ≠ []) (ht : fieldTs P t = ts) (h : Sh P t xs) :
    ∃ xss : List (List AV), xs = xss.flatten ∧ xss.length = ts.length ∧ ∀ (i : Nat) (u : TypeId) (ys : List AV), ts[i]? = some u → xss[i]? = some ys → Sh P u ys := by
  obtain ⟨fs, hf, hm⟩ := struct_of hne ht
  obtain ⟨xss, h1, h2, h3⟩ := sh_struct hf h
  refine ⟨xss, h1, by rw [h2, ← hm]; simp, fun i u ys hu hy => ?_⟩
  rw [← hm, List.getElem?_map] at hu
  cases hi : fs.toList[i]? with
  | none => rw [hi] at hu; cases hu
  | some f => rw [hi] at hu; cases hu; exact h3 i f ys hi hy
theorem sh_four {P : Program} {t a b c d : TypeId} {xs : List AV} (ht : fieldTs P t = [a, b, c, d]) (h : Sh P t xs) : ∃ p q r s, xs = p ++ (q ++ (r ++ s)) ∧ Sh P a p ∧ Sh P b q ∧ Sh P c r ∧ Sh P d s := by
  obtain ⟨xss, h1, h2, h3⟩ := sh_fields (by simp) ht h
  match xss, h2 with
  | [p, q, r, s], _ => exact ⟨p, q, r, s, by simpa using h1, h3 0 a p rfl rfl, h3 1 b q rfl rfl, h3 2 c r rfl rfl, h3 3 d s rfl rfl⟩
theorem ft41 : fieldTs Tryd.prog 41 = [3, 9, 3, 3] := by kernel_rfl
theorem shv_tok {x : AV} (h : ShV Tryd.prog 41 x) : ∃ t : Tok, x = tokV t := by
  obtain ⟨c, rfl, hc⟩ := shv_agg ag41 h
  obtain ⟨p, q, r, s, rfl, hp, hq, hr, hs⟩ := sh_four ft41 hc
  obtain ⟨a, rfl, _⟩ := sh_int u3 hp
  obtain ⟨t, rfl, _⟩ := sh_str u9 hq
  obtain ⟨b, rfl, _⟩ := sh_int u3 hr
  obtain ⟨d, rfl, _⟩ := sh_int u3 hs
  obtain ⟨l, rfl⟩ := bs_ex t
  exact ⟨⟨a, l, b, d⟩, rfl⟩
theorem list_toks : ∀ {ys : List AV}, (∀ y ∈ ys, ∃ t, y = tokV t) → ∃ l : List Tok, ys = toks l
  | [], _ => ⟨[], rfl⟩
  | y :: ys, h => by
    obtain ⟨t, rfl⟩ := h y (by simp)
    obtain ⟨l, rfl⟩ := list_toks (ys := ys) fun z hz => h z (by simp [hz])
    exact ⟨t :: l, rfl⟩
theorem shv_toks {x : AV} (h : ShV Tryd.prog 27 x) : ∃ l : List Tok, x = .sl false 4 (toks l) := by
  obtain ⟨ys, rfl, hl, hy⟩ := shv_slice u27 h
  obtain ⟨l, rfl⟩ := list_toks fun y hm => shv_tok (hy y hm)
  exact ⟨l, by rw [sz41]⟩
attribute [go_sem] con27_f con27_c
noncomputable def E40 : Env := envJ (P := Tryd.prog) jk zer (fun _ => false) (fun _ => false) [con10, con11, con24, con25, con26, con27, con28] []
theorem E40_ok : EnvOk Tryd.prog E40 := envJOk zer_ok
theorem le_sum {a : Nat} : ∀ {l : List Nat}, a ∈ l → a ≤ l.sum
  | b :: l, h => by
    rw [List.sum_cons]
    rcases List.mem_cons.1 h with rfl | h
    · omega
    · have := le_sum h; omega
theorem lexS_short {b : List UInt8} (hb : b.length ≤ 400) : shortT (lexS b).1 := by
  refine ⟨lexS_len b, ?_⟩
  generalize h : lexS b = r
  obtain ⟨ts, a, e⟩ := r
  by_cases he : e = 0
  · subst he
    obtain ⟨rfl, hT, _⟩ := lexS_tk h
    have hs := tk_sum ts 0 1 (by omega) hT
    intro t ht
    have : t.t.length ≤ (ts.map (·.t.length)).sum := by
      have hm : t.t.length ∈ ts.map (·.t.length) := List.mem_map.2 ⟨t, ht, rfl⟩
      exact le_sum hm
    omega
  · rw [lexS_R (by omega)] at h
    unfold outR at h
    split at h
    · cases h; exact absurd rfl he
    · cases h; simp
theorem short_of {l : List Tok} (hl : l.length ≤ 30) (h : ∀ j, j < l.length → (l.getD j ⟨0, [], 0, 0⟩).t.length ≤ 40) : shortT l := by
  refine ⟨by omega, fun t ht => ?_⟩
  obtain ⟨j, hj, rfl⟩ := List.getElem_of_mem ht
  have := h j hj
  rw [List.getD_eq_getElem?_getD, List.getElem?_eq_getElem hj] at this
  simp only [Option.getD_some] at this; omega
theorem kt_get {x y : List Tok} (h : y.map (fun t => (t.k, t.t)) = x.map (fun t => (t.k, t.t))) (i : Nat) :
    (y.getD i ⟨0, [], 0, 0⟩).k = (x.getD i ⟨0, [], 0, 0⟩).k ∧ (y.getD i ⟨0, [], 0, 0⟩).t = (x.getD i ⟨0, [], 0, 0⟩).t := by
  have := congrArg (fun l => l.getD i (0, [])) h
  simp only [List.getD_eq_getElem?_getD, List.getElem?_map] at this ⊢
  cases hx : x[i]? <;> cases hy : y[i]? <;> rw [hx, hy] at this <;> simp at this ⊢ <;> first | exact this | exact ⟨this.1, this.2⟩
set_option maxHeartbeats 4000000 in
theorem law9 {l : List Tok} {s : ByteArray} : PC Tryd.prog 9 [.sl false 4 (toks l), .lit (.string s)] (.lit (.bool true)) := by
  obtain ⟨b, rfl⟩ := bs_ex s
  cases h1 : (decide ((l.length : Int) > 30) || decide ((b.length : Int) > 400)) with
  | true =>
    refine pc_ofR E40_ok mixed (kp9) (rs := [.tmp 4]) Tryd.func9 rfl (by kernel_rfl) (by kernel_rfl) (Nat.le_of_ble_eq_true rfl) ?_
    simp only [initF_cons, initF_nil, Nat.reduceAdd]
    refine t_name fun KF => ?_
    unfold E40
    repeat' (first
     | (with_reducible first | refine t_seq fun K => ?_ | refine t_block ?_ | refine t_scope ?_ | refine t_label ?_ | refine t_skip ?_ | refine t_exit ?_ | refine t_ret ?_ | refine t_k ?_ | refine t_gF ?_ | exact kp_nil | exact Kp.refl _ | exact kp_to | refine kp_cons ?_ | refine kp_arr ?_ | refine kp_app ?_ | refine t_p ?_ | refine t_br (fun hc => ?_) fun hc => ?_)
     | ((with_reducible first | refine t_kE (t_openE ?_) | refine t_kD (t_openD ?_) | refine t_kE ?_ | refine t_kD ?_ | refine t_gS ?_ | refine t_kL ?_ | refine t_kLF ?_ ?_ | refine t_region fun K => ?_ | refine t_cond fun A B => ?_ | refine t_draw (by kernel_rfl) fun K => ?_); (try (first | refine t_hideE fun KL => ?_ | refine t_hideD fun KL => ?_)); simp only [go_sem, geff, kp9, h1])
     | ((with_reducible refine kp_skip ?_ ?_); rfl) | simp only [thenQ, blockQ, scopeQ, Nat.reduceEqDiff, reduceIte] | (with_reducible first | refine And.intro ?_ ?_ | intro vr))
    all_goals try (first | (with_reducible assumption) | (intros; (try simp only [Bool.and_eq_true, Bool.or_eq_true, Bool.or_eq_false_iff, Bool.not_eq_true', Bool.not_eq_false', decide_eq_true_eq, decide_eq_false_iff_not, beq_iff_eq, beq_eq_false_iff_ne, bne_iff_ne, bne_eq_false_iff_eq, ne_eq, inI64, List.length_append] at *) <;> omega) | (intros; (with_reducible first | refine impB_ofR ?_ | refine and_ofB ?_ ?_) <;> with_reducible first | assumption | (refine impB_ofR ?_; assumption)) | ((try simp only [Bool.and_eq_true] at vr); simp only [impB, vr, Bool.or_true, Bool.true_or, Bool.and_self, Bool.not_true, Bool.not_false, Bool.and_true]; done))
    all_goals ((first | refine end_retE ?_ | refine end_normE ?_); simp only [fin, go_sem])
    exact LeA.refl _
  | false =>
    have h1' := h1
    simp only [Bool.or_eq_false_iff, decide_eq_false_iff_not] at h1'
    have hl : l.length ≤ 30 := by omega
    have hb : b.length ≤ 400 := by omega
    have hsx := lexS_short hb
    have hjb := fun x a => join_back hb (x := x) (a := a)
    generalize hqa : lexS b = qa at *
    obtain ⟨ta, na, ea⟩ := qa
    simp only at hsx
    have hta := hsx.1
    refine pc_ofR E40_ok mixed (kp9) (rs := [.tmp 4]) Tryd.func9 rfl (by kernel_rfl) (by kernel_rfl) (Nat.le_of_ble_eq_true rfl) ?_
    simp only [initF_cons, initF_nil, Nat.reduceAdd]
    refine t_name fun KF => ?_
    unfold E40
    repeat' (first
     | (with_reducible first | refine t_seq fun K => ?_ | refine t_block ?_ | refine t_scope ?_ | refine t_label ?_ | refine t_skip ?_ | refine t_exit ?_ | refine t_ret ?_ | refine t_k ?_ | refine t_gF ?_ | exact kp_nil | exact Kp.refl _ | exact kp_to | refine kp_cons ?_ | refine kp_arr ?_ | refine kp_app ?_ | refine t_p ?_ | refine t_br (fun hc => ?_) fun hc => ?_)
     | ((with_reducible first | refine t_kE (t_openE ?_) | refine t_kD (t_openD ?_) | refine t_kE ?_ | refine t_kD ?_ | refine t_gS ?_ | refine t_kL ?_ | refine t_kLF ?_ ?_ | refine t_region fun K => ?_ | refine t_cond fun A B => ?_ | refine t_draw (by kernel_rfl) fun K => ?_); (try (first | refine t_hideE fun KL => ?_ | refine t_hideD fun KL => ?_)); simp only [go_sem, geff, kp9, h1])
     | ((with_reducible refine kp_skip ?_ ?_); rfl) | simp only [thenQ, blockQ, scopeQ, Nat.reduceEqDiff, reduceIte] | (with_reducible first | refine And.intro ?_ ?_ | intro vr))
    all_goals try (first | (with_reducible assumption) | (intros; (try simp only [Bool.and_eq_true, Bool.or_eq_true, Bool.or_eq_false_iff, Bool.not_eq_true', Bool.not_eq_false', decide_eq_true_eq, decide_eq_false_iff_not, beq_iff_eq, beq_eq_false_iff_ne, bne_iff_ne, bne_eq_false_iff_eq, ne_eq, inI64, List.length_append] at *) <;> omega) | (intros; (with_reducible first | refine impB_ofR ?_ | refine and_ofB ?_ ?_) <;> with_reducible first | assumption | (refine impB_ofR ?_; assumption)) | ((try simp only [Bool.and_eq_true] at vr); simp only [impB, vr, Bool.or_true, Bool.true_or, Bool.and_self, Bool.not_true, Bool.not_false, Bool.and_true]; done))
    refine t_loopF (ι := { i : Nat // i ≤ l.length ∧ ∀ j, j < i → (l.getD j ⟨0, [], 0, 0⟩).t.length ≤ 40 }) (fun i => [(5, .lit (.int .i64 i.1))]) (fun i => []) (fun i => l.length - i.1) ⟨0, by omega, fun j h => by omega⟩ ?_ ?_
    · simp only [updL_nil, updL_cons, delF_top, delF_upd, Nat.reduceEqDiff, reduceIte]
      refine Le.frameS (by first | rfl | (simp only [go_sem]; try rfl)) ?_
      repeat' (first | exact leF_top _ | exact (fun _ => LeR.refl _) | (with_reducible refine leF_sl ?_ ?_) | (refine leF_upd ?_ ?_))
      all_goals (first | exact LeR.top _ | exact LeR.refl _ | (refine LeR.of_eq ?_; (try simp only [go_sem]); try rfl) | ((try simp only [go_sem]); try rfl))
    rintro ⟨i, hi, hal⟩ K0
    rcases Nat.lt_or_ge i l.length with hlt | hge
    · have g5 : decide ((i : Int) < (l.length : Int)) = true := decide_eq_true (by omega)
      cases h4 : decide (((l.getD i ⟨0, [], 0, 0⟩).t.length : Int) > 40) with
      | true =>
        repeat' (first
         | (with_reducible first | refine t_seq fun K => ?_ | refine t_block ?_ | refine t_scope ?_ | refine t_label ?_ | refine t_skip ?_ | refine t_exit ?_ | refine t_ret ?_ | refine t_k ?_ | refine t_gF ?_ | exact kp_nil | exact Kp.refl _ | exact kp_to | refine kp_cons ?_ | refine kp_arr ?_ | refine kp_app ?_ | refine t_p ?_ | refine t_br (fun hc => ?_) fun hc => ?_)
         | ((with_reducible first | refine t_kE (t_openE ?_) | refine t_kD (t_openD ?_) | refine t_kE ?_ | refine t_kD ?_ | refine t_gS ?_ | refine t_kL ?_ | refine t_kLF ?_ ?_ | refine t_region fun K => ?_ | refine t_cond fun A B => ?_ | refine t_draw (by kernel_rfl) fun K => ?_); (try (first | refine t_hideE fun KL => ?_ | refine t_hideD fun KL => ?_)); simp only [go_sem, geff, kp9, updL_cons, updL_nil, Int.toNat_natCast, g5, tokV, h4])
         | ((with_reducible refine kp_skip ?_ ?_); rfl) | simp only [thenQ, blockQ, scopeQ, Nat.reduceEqDiff, reduceIte] | (with_reducible first | refine And.intro ?_ ?_ | intro vr))
        all_goals try (first | (with_reducible assumption) | (intros; (try simp only [Bool.and_eq_true, Bool.or_eq_true, Bool.or_eq_false_iff, Bool.not_eq_true', Bool.not_eq_false', decide_eq_true_eq, decide_eq_false_iff_not, beq_iff_eq, beq_eq_false_iff_ne, bne_iff_ne, bne_eq_false_iff_eq, ne_eq, inI64, List.length_append] at *) <;> omega) | (intros; (with_reducible first | refine impB_ofR ?_ | refine and_ofB ?_ ?_) <;> with_reducible first | assumption | (refine impB_ofR ?_; assumption)) | ((try simp only [Bool.and_eq_true] at vr); simp only [impB, vr, Bool.or_true, Bool.true_or, Bool.and_self, Bool.not_true, Bool.not_false, Bool.and_true]; done))
        all_goals ((first | refine end_retE ?_ | refine end_normE ?_); simp only [fin, go_sem])
        exact LeA.refl _
      | false =>
        have h4' := h4
        simp only [decide_eq_false_iff_not] at h4'
        have hal' : ∀ j, j < i + 1 → (l.getD j ⟨0, [], 0, 0⟩).t.length ≤ 40 := by
          intro j hj
          rcases Nat.lt_or_ge j i with h | h
          · exact hal j h
          · rw [show j = i by omega]; omega
        cases i with
        | zero =>
          have g6 : decide (((0 : Nat) : Int) > 0) = false := rfl
          have g7 : decide ((0 : Int) < (l.length : Int)) = true := decide_eq_true (by omega)
          repeat' (first
           | (with_reducible first | refine t_seq fun K => ?_ | refine t_block ?_ | refine t_scope ?_ | refine t_label ?_ | refine t_skip ?_ | refine t_exit ?_ | refine t_ret ?_ | refine t_k ?_ | refine t_gF ?_ | exact kp_nil | exact Kp.refl _ | exact kp_to | refine kp_cons ?_ | refine kp_arr ?_ | refine kp_app ?_ | refine t_p ?_ | refine t_br (fun hc => ?_) fun hc => ?_)
           | ((with_reducible first | refine t_kE (t_openE ?_) | refine t_kD (t_openD ?_) | refine t_kE ?_ | refine t_kD ?_ | refine t_gS ?_ | refine t_kL ?_ | refine t_kLF ?_ ?_ | refine t_region fun K => ?_ | refine t_cond fun A B => ?_ | refine t_draw (by kernel_rfl) fun K => ?_); (try (first | refine t_hideE fun KL => ?_ | refine t_hideD fun KL => ?_)); simp only [go_sem, geff, kp9, updL_cons, updL_nil, Int.toNat_natCast, g5, g7, tokV, h4, g6])
           | ((with_reducible refine kp_skip ?_ ?_); rfl) | simp only [thenQ, blockQ, scopeQ, Nat.reduceEqDiff, reduceIte] | (with_reducible first | refine And.intro ?_ ?_ | intro vr))
          all_goals try (first | (with_reducible assumption) | (intros; (try simp only [Bool.and_eq_true, Bool.or_eq_true, Bool.or_eq_false_iff, Bool.not_eq_true', Bool.not_eq_false', decide_eq_true_eq, decide_eq_false_iff_not, beq_iff_eq, beq_eq_false_iff_ne, bne_iff_ne, bne_eq_false_iff_eq, ne_eq, inI64, List.length_append] at *) <;> omega) | (intros; (with_reducible first | refine impB_ofR ?_ | refine and_ofB ?_ ?_) <;> with_reducible first | assumption | (refine impB_ofR ?_; assumption)) | ((try simp only [Bool.and_eq_true] at vr); simp only [impB, vr, Bool.or_true, Bool.true_or, Bool.and_self, Bool.not_true, Bool.not_false, Bool.and_true]; done))
          refine ⟨⟨1, by omega, hal'⟩, by first | (simp only; omega) | omega, ?_⟩
          simp only [updL_nil, updL_cons, delF_top, delF_upd, Nat.reduceEqDiff, reduceIte]
          refine Le.frameS (by first | rfl | (simp only [go_sem]; try rfl)) ?_
          repeat' (first | exact leF_top _ | exact (fun _ => LeR.refl _) | (with_reducible refine leF_sl ?_ ?_) | (refine leF_upd ?_ ?_))
          all_goals (first | exact LeR.top _ | exact LeR.refl _ | (refine LeR.of_eq ?_; (try simp only [go_sem]); try rfl) | ((try simp only [go_sem]); try rfl))
        | succ i => 
          have g6 : decide (((i + 1 : Nat) : Int) > 0) = true := decide_eq_true (by omega)
          have e1 : (((i + 1 : Nat) : Int) - 1).toNat = i := by omega
          have h5 := hal i (by omega)
          repeat' (first
           | (with_reducible first | refine t_seq fun K => ?_ | refine t_block ?_ | refine t_scope ?_ | refine t_label ?_ | refine t_skip ?_ | refine t_exit ?_ | refine t_ret ?_ | refine t_k ?_ | refine t_gF ?_ | exact kp_nil | exact Kp.refl _ | exact kp_to | refine kp_cons ?_ | refine kp_arr ?_ | refine kp_app ?_ | refine t_p ?_ | refine t_br (fun hc => ?_) fun hc => ?_)
           | ((with_reducible first | refine t_kE (t_openE ?_) | refine t_kD (t_openD ?_) | refine t_kE ?_ | refine t_kD ?_ | refine t_gS ?_ | refine t_kL ?_ | refine t_kLF ?_ ?_ | refine t_region fun K => ?_ | refine t_cond fun A B => ?_ | refine t_draw (by kernel_rfl) fun K => ?_); (try (first | refine t_hideE fun KL => ?_ | refine t_hideD fun KL => ?_)); simp only [go_sem, geff, kp9, updL_cons, updL_nil, Int.toNat_natCast, g5, tokV, h4, g6, e1, bne_self_eq_false])
           | ((with_reducible refine kp_skip ?_ ?_); rfl) | simp only [thenQ, blockQ, scopeQ, Nat.reduceEqDiff, reduceIte] | (with_reducible first | refine And.intro ?_ ?_ | intro vr))
          all_goals try (first | (with_reducible assumption) | (intros; (try simp only [Bool.and_eq_true, Bool.or_eq_true, Bool.or_eq_false_iff, Bool.not_eq_true', Bool.not_eq_false', decide_eq_true_eq, decide_eq_false_iff_not, beq_iff_eq, beq_eq_false_iff_ne, bne_iff_ne, bne_eq_false_iff_eq, ne_eq, inI64, List.length_append] at *) <;> omega) | (intros; (with_reducible first | refine impB_ofR ?_ | refine and_ofB ?_ ?_) <;> with_reducible first | assumption | (refine impB_ofR ?_; assumption)) | ((try simp only [Bool.and_eq_true] at vr); simp only [impB, vr, Bool.or_true, Bool.true_or, Bool.and_self, Bool.not_true, Bool.not_false, Bool.and_true]; done))
          refine ⟨⟨i + 2, by omega, hal'⟩, by first | (simp only; omega) | omega, ?_⟩
          simp only [updL_nil, updL_cons, delF_top, delF_upd, Nat.reduceEqDiff, reduceIte]
          refine Le.frameS (by first | rfl | (simp only [go_sem]; try rfl)) ?_
          repeat' (first | exact leF_top _ | exact (fun _ => LeR.refl _) | (with_reducible refine leF_sl ?_ ?_) | (refine leF_upd ?_ ?_))
          all_goals (first | exact LeR.top _ | exact LeR.refl _ | (refine LeR.of_eq ?_; (try simp only [go_sem]); try rfl) | ((try simp only [go_sem]); try rfl))
    · have g5 : decide ((i : Int) < (l.length : Int)) = false := decide_eq_false (by omega)
      have e : i = l.length := by omega
      subst e
      have hsl : shortT l := short_of hl hal
      have hJJ : (joinS l == joinS l) = true := beq_self_eq_true _
      generalize hqb : lexS (joinS ta) = qb at *
      obtain ⟨ys, nb, eb⟩ := qb
      by_cases h2 : ea = 0
      · subst h2
        obtain ⟨_, ys', e1, e2⟩ := hjb ta na rfl
        rw [hqb] at e1
        cases e1
        have hyl : ys.length = ta.length := by have := congrArg List.length e2; simpa using this
        repeat' (first
         | (with_reducible first | refine t_seq fun K => ?_ | refine t_block ?_ | refine t_scope ?_ | refine t_label ?_ | refine t_skip ?_ | refine t_exit ?_ | refine t_ret ?_ | refine t_k ?_ | refine t_gF ?_ | exact kp_nil | exact Kp.refl _ | exact kp_to | refine kp_cons ?_ | refine kp_arr ?_ | refine kp_app ?_ | refine t_p ?_ | refine t_br (fun hc => ?_) fun hc => ?_)
         | ((with_reducible first | refine t_kE (t_openE ?_) | refine t_kD (t_openD ?_) | refine t_kE ?_ | refine t_kD ?_ | refine t_gS ?_ | refine t_kL ?_ | refine t_kLF ?_ ?_ | refine t_region fun K => ?_ | refine t_cond fun A B => ?_ | refine t_draw (by kernel_rfl) fun K => ?_); (try (first | refine t_hideE fun KL => ?_ | refine t_hideD fun KL => ?_)); simp only [go_sem, geff, kp9, updL_cons, updL_nil, Int.toNat_natCast, g5, hJJ, Bool.not_true, ul_bs, hqa, hqb, lexV])
         | ((with_reducible refine kp_skip ?_ ?_); rfl) | simp only [thenQ, blockQ, scopeQ, Nat.reduceEqDiff, reduceIte] | (with_reducible first | refine And.intro ?_ ?_ | intro vr))
        all_goals try (first | (with_reducible assumption) | (intros; (try simp only [Bool.and_eq_true, Bool.or_eq_true, Bool.or_eq_false_iff, Bool.not_eq_true', Bool.not_eq_false', decide_eq_true_eq, decide_eq_false_iff_not, beq_iff_eq, beq_eq_false_iff_ne, bne_iff_ne, bne_eq_false_iff_eq, ne_eq, inI64, List.length_append] at *) <;> omega) | (intros; (with_reducible first | refine impB_ofR ?_ | refine and_ofB ?_ ?_) <;> with_reducible first | assumption | (refine impB_ofR ?_; assumption)) | ((try simp only [Bool.and_eq_true] at vr); simp only [impB, vr, Bool.or_true, Bool.true_or, Bool.and_self, Bool.not_true, Bool.not_false, Bool.and_true]; done))
        refine t_loopF (ι := { i : Nat // i ≤ ta.length }) (fun i => [(12, .lit (.int .i64 i.1))]) (fun i => []) (fun i => ta.length - i.1) ⟨0, by omega⟩ ?_ ?_
        · simp only [updL_nil, updL_cons, delF_top, delF_upd, Nat.reduceEqDiff, reduceIte]
          refine Le.frameS (by first | rfl | (simp only [go_sem]; try rfl)) ?_
          repeat' (first | exact leF_top _ | exact (fun _ => LeR.refl _) | (with_reducible refine leF_sl ?_ ?_) | (refine leF_upd ?_ ?_))
          all_goals (first | exact LeR.top _ | exact LeR.refl _ | (refine LeR.of_eq ?_; (try simp only [go_sem]); try rfl) | ((try simp only [go_sem]); try rfl))
        rintro ⟨i, hi⟩ K1
        rcases Nat.lt_or_ge i ta.length with hlt | hge
        · have g6 : decide ((i : Int) < (ta.length : Int)) = true := decide_eq_true (by omega)
          have hk := kt_get e2 i
          repeat' (first
           | (with_reducible first | refine t_seq fun K => ?_ | refine t_block ?_ | refine t_scope ?_ | refine t_label ?_ | refine t_skip ?_ | refine t_exit ?_ | refine t_ret ?_ | refine t_k ?_ | refine t_gF ?_ | exact kp_nil | exact Kp.refl _ | exact kp_to | refine kp_cons ?_ | refine kp_arr ?_ | refine kp_app ?_ | refine t_p ?_ | refine t_br (fun hc => ?_) fun hc => ?_)
           | ((with_reducible first | refine t_kE (t_openE ?_) | refine t_kD (t_openD ?_) | refine t_kE ?_ | refine t_kD ?_ | refine t_gS ?_ | refine t_kL ?_ | refine t_kLF ?_ ?_ | refine t_region fun K => ?_ | refine t_cond fun A B => ?_ | refine t_draw (by kernel_rfl) fun K => ?_); (try (first | refine t_hideE fun KL => ?_ | refine t_hideD fun KL => ?_)); simp only [go_sem, geff, kp9, updL_cons, updL_nil, Int.toNat_natCast, g6, hyl, tokV, hk.1, hk.2, bne_self_eq_false, beq_self_eq_true])
           | ((with_reducible refine kp_skip ?_ ?_); rfl) | simp only [thenQ, blockQ, scopeQ, Nat.reduceEqDiff, reduceIte] | (with_reducible first | refine And.intro ?_ ?_ | intro vr))
          all_goals try (first | (with_reducible assumption) | (intros; (try simp only [Bool.and_eq_true, Bool.or_eq_true, Bool.or_eq_false_iff, Bool.not_eq_true', Bool.not_eq_false', decide_eq_true_eq, decide_eq_false_iff_not, beq_iff_eq, beq_eq_false_iff_ne, bne_iff_ne, bne_eq_false_iff_eq, ne_eq, inI64, List.length_append] at *) <;> omega) | (intros; (with_reducible first | refine impB_ofR ?_ | refine and_ofB ?_ ?_) <;> with_reducible first | assumption | (refine impB_ofR ?_; assumption)) | ((try simp only [Bool.and_eq_true] at vr); simp only [impB, vr, Bool.or_true, Bool.true_or, Bool.and_self, Bool.not_true, Bool.not_false, Bool.and_true]; done))
          refine ⟨⟨i + 1, by omega⟩, by first | (simp only; omega) | omega, ?_⟩
          simp only [updL_nil, updL_cons, delF_top, delF_upd, Nat.reduceEqDiff, reduceIte]
          refine Le.frameS (by first | rfl | (simp only [go_sem]; try rfl)) ?_
          repeat' (first | exact leF_top _ | exact (fun _ => LeR.refl _) | (with_reducible refine leF_sl ?_ ?_) | (refine leF_upd ?_ ?_))
          all_goals (first | exact LeR.top _ | exact LeR.refl _ | (refine LeR.of_eq ?_; (try simp only [go_sem]); try rfl) | ((try simp only [go_sem]); try rfl))
        · have g6 : decide ((i : Int) < (ta.length : Int)) = false := decide_eq_false (by omega)
          repeat' (first
           | (with_reducible first | refine t_seq fun K => ?_ | refine t_block ?_ | refine t_scope ?_ | refine t_label ?_ | refine t_skip ?_ | refine t_exit ?_ | refine t_ret ?_ | refine t_k ?_ | refine t_gF ?_ | exact kp_nil | exact Kp.refl _ | exact kp_to | refine kp_cons ?_ | refine kp_arr ?_ | refine kp_app ?_ | refine t_p ?_ | refine t_br (fun hc => ?_) fun hc => ?_)
           | ((with_reducible first | refine t_kE (t_openE ?_) | refine t_kD (t_openD ?_) | refine t_kE ?_ | refine t_kD ?_ | refine t_gS ?_ | refine t_kL ?_ | refine t_kLF ?_ ?_ | refine t_region fun K => ?_ | refine t_cond fun A B => ?_ | refine t_draw (by kernel_rfl) fun K => ?_); (try (first | refine t_hideE fun KL => ?_ | refine t_hideD fun KL => ?_)); simp only [go_sem, geff, kp9, updL_cons, updL_nil, Int.toNat_natCast, g6, hyl, beq_self_eq_true])
           | ((with_reducible refine kp_skip ?_ ?_); rfl) | simp only [thenQ, blockQ, scopeQ, Nat.reduceEqDiff, reduceIte] | (with_reducible first | refine And.intro ?_ ?_ | intro vr))
          all_goals try (first | (with_reducible assumption) | (intros; (try simp only [Bool.and_eq_true, Bool.or_eq_true, Bool.or_eq_false_iff, Bool.not_eq_true', Bool.not_eq_false', decide_eq_true_eq, decide_eq_false_iff_not, beq_iff_eq, beq_eq_false_iff_ne, bne_iff_ne, bne_eq_false_iff_eq, ne_eq, inI64, List.length_append] at *) <;> omega) | (intros; (with_reducible first | refine impB_ofR ?_ | refine and_ofB ?_ ?_) <;> with_reducible first | assumption | (refine impB_ofR ?_; assumption)) | ((try simp only [Bool.and_eq_true] at vr); simp only [impB, vr, Bool.or_true, Bool.true_or, Bool.and_self, Bool.not_true, Bool.not_false, Bool.and_true]; done))
          all_goals ((first | refine end_retE ?_ | refine end_normE ?_); simp only [fin, go_sem])
          exact LeA.refl _
      · have h3 : (ea != 0) = true := by simpa using h2
        repeat' (first
         | (with_reducible first | refine t_seq fun K => ?_ | refine t_block ?_ | refine t_scope ?_ | refine t_label ?_ | refine t_skip ?_ | refine t_exit ?_ | refine t_ret ?_ | refine t_k ?_ | refine t_gF ?_ | exact kp_nil | exact Kp.refl _ | exact kp_to | refine kp_cons ?_ | refine kp_arr ?_ | refine kp_app ?_ | refine t_p ?_ | refine t_br (fun hc => ?_) fun hc => ?_)
         | ((with_reducible first | refine t_kE (t_openE ?_) | refine t_kD (t_openD ?_) | refine t_kE ?_ | refine t_kD ?_ | refine t_gS ?_ | refine t_kL ?_ | refine t_kLF ?_ ?_ | refine t_region fun K => ?_ | refine t_cond fun A B => ?_ | refine t_draw (by kernel_rfl) fun K => ?_); (try (first | refine t_hideE fun KL => ?_ | refine t_hideD fun KL => ?_)); simp only [go_sem, geff, kp9, updL_cons, updL_nil, Int.toNat_natCast, g5, hJJ, Bool.not_true, ul_bs, hqa, hqb, lexV, h3])
         | ((with_reducible refine kp_skip ?_ ?_); rfl) | simp only [thenQ, blockQ, scopeQ, Nat.reduceEqDiff, reduceIte] | (with_reducible first | refine And.intro ?_ ?_ | intro vr))
        all_goals try (first | (with_reducible assumption) | (intros; (try simp only [Bool.and_eq_true, Bool.or_eq_true, Bool.or_eq_false_iff, Bool.not_eq_true', Bool.not_eq_false', decide_eq_true_eq, decide_eq_false_iff_not, beq_iff_eq, beq_eq_false_iff_ne, bne_iff_ne, bne_eq_false_iff_eq, ne_eq, inI64, List.length_append] at *) <;> omega) | (intros; (with_reducible first | refine impB_ofR ?_ | refine and_ofB ?_ ?_) <;> with_reducible first | assumption | (refine impB_ofR ?_; assumption)) | ((try simp only [Bool.and_eq_true] at vr); simp only [impB, vr, Bool.or_true, Bool.true_or, Bool.and_self, Bool.not_true, Bool.not_false, Bool.and_true]; done))
        all_goals ((first | refine end_retE ?_ | refine end_normE ?_); simp only [fin, go_sem])
        exact LeA.refl _
theorem law9_law : ∀ xs, ShL Tryd.prog Tryd.f9.params.toList xs → PC Tryd.prog 9 xs (.lit (.bool true))
  | [x, y], h => by
    obtain ⟨l, rfl⟩ := shv_toks h.1
    obtain ⟨t, rfl, _⟩ := shv_str u9 h.2.1
    exact law9
  | [], h => h.elim
  | [_], h => h.2.elim
  | _ :: _ :: _ :: _, h => h.2.2.elim
end Go.Proofs.YtkkamgblakhmiaaDoor
