/- No token could be longer. -/
import Derived.Test.YtkkamgblakhmiaaDoorLD

set_option linter.all false

namespace Go.Proofs.YtkkamgblakhmiaaDoor
open Go Go.Fw
set_option maxRecDepth 20000

/-- Where a run ends. -/
theorem run_end {b : Bool} {l : List UInt8} (h : runN b l < l.length) : (dgB (l.getD (runN b l) 0) || (b && smB (l.getD (runN b l) 0))) = false := by
  induction l with
  | nil => simp at h
  | cons c l ih =>
    simp only [runN] at h ⊢
    split
    · rename_i hc
      rw [if_pos hc] at h
      simpa using ih (by simpa using h)
    · rename_i hc
      simpa using hc
theorem run_take (b : Bool) (l : List UInt8) {n : Nat} (h : runN b l < n) : runN b (l.take n) = runN b l := by
  induction l generalizing n with
  | nil => simp [runN]
  | cons c l ih =>
    cases n with
    | zero => omega
    | succ n =>
      simp only [List.take_succ_cons, runN] at h ⊢
      split
      · rename_i hc
        rw [if_pos hc] at h
        rw [ih (by omega)]
      · rfl
theorem sym_two {p : List UInt8 → Bool} {w x : List UInt8} (h : symL.find? p = some w) (hx : x ∈ symL) (hp : p x = true) (hl : x.length = 2) : w.length = 2 := by
  have e : symL = symL.take 8 ++ symL.drop 8 := (List.take_append_drop 8 symL).symm
  have h2 : ∀ y ∈ symL.take 8, y.length = 2 := by decide
  have h1 : ∀ y ∈ symL.drop 8, y.length = 1 := by decide
  rw [e, List.find?_append] at h
  rw [e, List.mem_append] at hx
  rcases hx with hx | hx
  · cases hf : (symL.take 8).find? p with
    | none => rw [List.find?_eq_none] at hf; exact absurd hp (hf x hx)
    | some y =>
      rw [hf] at h
      cases h
      exact h2 _ (List.mem_of_find?_eq_some hf)
  · have := h1 x hx; omega
theorem sym_len {x : List UInt8} (h : x ∈ symL) : x.length ≤ 2 := by
  have : ∀ y ∈ symL, y.length ≤ 2 := by decide
  exact this x h
/-- A token together with the byte behind it is no token. -/
theorem first_longer {d : List UInt8} {kd : Int} {w : List UInt8} (h : firstS d = (kd, w)) (h0 : kd ≠ 0) (hl : w.length < d.length) : (firstS (d.take (w.length + 1))).2 ≠ d.take (w.length + 1) := by
  intro he
  have hel := congrArg List.length he
  rw [List.length_take, Nat.min_eq_left (by omega)] at hel
  cases d with
  | nil => simp at hl
  | cons c d =>
    rw [firstC rfl] at h
    rw [List.take_succ_cons, firstC (c := c) (l := d.take w.length) rfl, ← List.take_succ_cons] at hel
    by_cases h1 : smB c = true
    · rw [if_pos h1] at h hel
      have hw : w = (c :: d).take (runN true (c :: d)) := by
        split at h
        · exact (Prod.mk.inj h).2.symm
        · split at h
          · exact (Prod.mk.inj h).2.symm
          · exact absurd (Prod.mk.inj h).1.symm h0
      have hr := runN_le true (c :: d)
      have hwl : w.length = runN true (c :: d) := by rw [hw, List.length_take]; omega
      have ht := run_take true (c :: d) (n := w.length + 1) (by omega)
      rw [ht] at hel
      have hm : ((List.take (w.length + 1) (c :: d)).take (runN true (c :: d))).length ≤ w.length := by rw [List.length_take]; omega
      split at hel
      · simp only at hel; omega
      · split at hel
        · simp only at hel; omega
        · simp at hel
    · rw [if_neg h1] at h hel
      by_cases h2 : dgB c = true
      · rw [if_pos h2] at h hel
        have hw : w = (c :: d).take (runN false (c :: d)) := by
          split at h
          · exact (Prod.mk.inj h).2.symm
          · exact absurd (Prod.mk.inj h).1.symm h0
        have hr := runN_le false (c :: d)
        have hwl : w.length = runN false (c :: d) := by rw [hw, List.length_take]; omega
        have ht := run_take false (c :: d) (n := w.length + 1) (by omega)
        rw [ht] at hel
        have hm : ((List.take (w.length + 1) (c :: d)).take (runN false (c :: d))).length ≤ w.length := by rw [List.length_take]; omega
        split at hel
        · simp only at hel; omega
        · simp at hel
      · rw [if_neg h2] at h hel
        cases hs : symS (c :: d) with
        | none => rw [hs] at h; exact absurd (Prod.mk.inj h).1.symm h0
        | some y =>
          rw [hs] at h
          have hy : y = w := (Prod.mk.inj h).2
          subst hy
          cases hs2 : symS ((c :: d).take (y.length + 1)) with
          | none => rw [hs2] at hel; simp at hel
          | some x =>
            rw [hs2] at hel
            simp only at hel
            have hxm := List.mem_of_find?_eq_some hs2
            have hxp := List.find?_some hs2
            have hyl := List.length_pos_iff.2 (symS_ne hs)
            have hx2 := sym_len hxm
            have hxd : x.isPrefixOf (c :: d) = true := List.isPrefixOf_iff_prefix.2 ((List.isPrefixOf_iff_prefix.1 hxp).trans (List.take_prefix _ _))
            have := sym_two hs hxm hxd (by omega)
            omega
/-- The byte behind a word is no letter, that behind a number no digit. -/
theorem first_behind {d : List UInt8} {kd : Int} {w : List UInt8} (h : firstS d = (kd, w)) (h0 : kd ≠ 0) (hl : w.length < d.length) :
    kd = 4 ∨ (dgB (d.getD w.length 0) = false ∧ (kd = 3 ∨ smB (d.getD w.length 0) = false)) := by
  cases d with
  | nil => simp at hl
  | cons c d =>
    rw [firstC rfl] at h
    by_cases h1 : smB c = true
    · rw [if_pos h1] at h
      have hw : w = (c :: d).take (runN true (c :: d)) := by
        split at h
        · exact (Prod.mk.inj h).2.symm
        · split at h
          · exact (Prod.mk.inj h).2.symm
          · exact absurd (Prod.mk.inj h).1.symm h0
      have hr := runN_le true (c :: d)
      have hwl : w.length = runN true (c :: d) := by rw [hw, List.length_take]; omega
      have := run_end (b := true) (l := c :: d) (by omega)
      rw [← hwl] at this
      simp only [Bool.true_and, Bool.or_eq_false_iff] at this
      exact .inr ⟨this.1, .inr this.2⟩
    · rw [if_neg h1] at h
      by_cases h2 : dgB c = true
      · rw [if_pos h2] at h
        split at h
        · have hw := (Prod.mk.inj h).2
          have hr := runN_le false (c :: d)
          have hwl : w.length = runN false (c :: d) := by rw [← hw, List.length_take]; omega
          have := run_end (b := false) (l := c :: d) (by omega)
          rw [← hwl] at this
          simp only [Bool.false_and, Bool.or_false] at this
          exact .inr ⟨this, .inl (Prod.mk.inj h).1.symm⟩
        · exact absurd (Prod.mk.inj h).1.symm h0
      · rw [if_neg h2] at h
        cases hs : symS (c :: d) with
        | none => rw [hs] at h; exact absurd (Prod.mk.inj h).1.symm h0
        | some y => rw [hs] at h; exact .inl (Prod.mk.inj h).1.symm
/-- What Lex says of a token with the byte behind it. -/
theorem lex_longer {d : List UInt8} {kd : Int} {w : List UInt8} (h : firstS d = (kd, w)) (h0 : kd ≠ 0) (hl : w.length < d.length) :
    (((lexS (d.take (w.length + 1))).2.2 == 0) && (((lexS (d.take (w.length + 1))).1.length : Int) == 1) && (((lexS (d.take (w.length + 1))).1.getD 0 ⟨0, [], 0, 0⟩).t == d.take (w.length + 1))) = false := by
  rw [Bool.eq_false_iff]
  intro hc
  simp only [Bool.and_eq_true, beq_iff_eq] at hc
  obtain ⟨⟨h1, h2⟩, h3⟩ := hc
  generalize hq : lexS (d.take (w.length + 1)) = q at h1 h2 h3
  obtain ⟨ts, a, e⟩ := q
  simp only at h1 h2 h3
  subst h1
  obtain ⟨rfl, hT, _⟩ := lexS_tk hq
  match ts, h2 with
  | [x], _ =>
    obtain ⟨k1, k2, k3, _⟩ := hT
    have hlen : (d.take (w.length + 1)).length = w.length + 1 := by rw [List.length_take]; omega
    have hf := firstS_len ((d.take (w.length + 1)).drop (0 + blk false ((d.take (w.length + 1)).drop 0)))
    rw [k3] at hf
    simp only [List.getD_cons_zero] at h3
    simp only [List.length_drop] at hf
    rw [h3, hlen] at hf
    have hz : 0 + blk false ((d.take (w.length + 1)).drop 0) = 0 := by omega
    rw [hz, List.drop_zero] at k3
    exact first_longer h h0 hl (by rw [k3]; exact h3)
noncomputable def E32 : Env := envJ (P := Tryd.prog) jk zer (fun _ => false) (fun _ => false) [con10, con11] []
theorem E32_ok : EnvOk Tryd.prog E32 := envJOk zer_ok
theorem sm_cmp (c : Int) : (decide (c ≥ 97) && decide (c ≤ 122)) = smN c := rfl
theorem dg_cmp (c : Int) : (decide (c ≥ 48) && decide (c ≤ 57)) = dgN c := rfl
set_option maxHeartbeats 4000000 in
theorem law6 {s : ByteArray} : PC Tryd.prog 6 [.lit (.string s)] (.lit (.bool true)) := by
  obtain ⟨l, rfl⟩ := bs_ex s
  cases h1 : (decide ((l.length : Int) > 400) || ((lexS l).2.2 != 0)) with
  | true =>
    refine pc_ofR E32_ok mixed (kp6) (rs := [.tmp 2]) Tryd.func6 rfl (by kernel_rfl) (by kernel_rfl) (Nat.le_of_ble_eq_true rfl) ?_
    simp only [initF_cons, initF_nil, Nat.reduceAdd]
    refine t_name fun KF => ?_
    unfold E32
    repeat' (first
     | (with_reducible first | refine t_seq fun K => ?_ | refine t_block ?_ | refine t_scope ?_ | refine t_label ?_ | refine t_skip ?_ | refine t_exit ?_ | refine t_ret ?_ | refine t_k ?_ | refine t_gF ?_ | exact kp_nil | exact Kp.refl _ | exact kp_to | refine kp_cons ?_ | refine kp_arr ?_ | refine kp_app ?_ | refine t_p ?_ | refine t_br (fun hc => ?_) fun hc => ?_)
     | ((with_reducible first | refine t_kE (t_openE ?_) | refine t_kD (t_openD ?_) | refine t_kE ?_ | refine t_kD ?_ | refine t_gS ?_ | refine t_kL ?_ | refine t_kLF ?_ ?_ | refine t_region fun K => ?_ | refine t_cond fun A B => ?_ | refine t_draw (by kernel_rfl) fun K => ?_); (try (first | refine t_hideE fun KL => ?_ | refine t_hideD fun KL => ?_)); simp only [go_sem, geff, kp6, lexV, h1])
     | ((with_reducible refine kp_skip ?_ ?_); rfl) | simp only [thenQ, blockQ, scopeQ, Nat.reduceEqDiff, reduceIte] | (with_reducible first | refine And.intro ?_ ?_ | intro vr))
    all_goals try (first | (with_reducible assumption) | (intros; (try simp only [Bool.and_eq_true, Bool.or_eq_true, Bool.or_eq_false_iff, Bool.not_eq_true', Bool.not_eq_false', decide_eq_true_eq, decide_eq_false_iff_not, beq_iff_eq, beq_eq_false_iff_ne, bne_iff_ne, bne_eq_false_iff_eq, ne_eq, inI64, List.length_append] at *) <;> omega) | (intros; (with_reducible first | refine impB_ofR ?_ | refine and_ofB ?_ ?_) <;> with_reducible first | assumption | (refine impB_ofR ?_; assumption)) | ((try simp only [Bool.and_eq_true] at vr); simp only [impB, vr, Bool.or_true, Bool.true_or, Bool.and_self, Bool.not_true, Bool.not_false, Bool.and_true]; done))
    all_goals ((first | refine end_retE ?_ | refine end_normE ?_); simp only [fin, go_sem])
    exact LeA.refl _
  | false =>
    have h1' := h1
    simp only [Bool.or_eq_false_iff, decide_eq_false_iff_not, bne_eq_false_iff_eq] at h1'
    generalize hq : lexS l = q at h1 h1'
    obtain ⟨ts, a, e⟩ := q
    simp only at h1 h1'
    obtain ⟨h400, rfl⟩ := h1'
    obtain ⟨rfl, hT, _⟩ := lexS_tk hq
    have hlen := lexS_len l
    rw [hq] at hlen
    simp only at hlen
    refine pc_ofR E32_ok mixed (kp6) (rs := [.tmp 2]) Tryd.func6 rfl (by kernel_rfl) (by kernel_rfl) (Nat.le_of_ble_eq_true rfl) ?_
    simp only [initF_cons, initF_nil, Nat.reduceAdd]
    refine t_name fun KF => ?_
    unfold E32
    repeat' (first
     | (with_reducible first | refine t_seq fun K => ?_ | refine t_block ?_ | refine t_scope ?_ | refine t_label ?_ | refine t_skip ?_ | refine t_exit ?_ | refine t_ret ?_ | refine t_k ?_ | refine t_gF ?_ | exact kp_nil | exact Kp.refl _ | exact kp_to | refine kp_cons ?_ | refine kp_arr ?_ | refine kp_app ?_ | refine t_p ?_ | refine t_br (fun hc => ?_) fun hc => ?_)
     | ((with_reducible first | refine t_kE (t_openE ?_) | refine t_kD (t_openD ?_) | refine t_kE ?_ | refine t_kD ?_ | refine t_gS ?_ | refine t_kL ?_ | refine t_kLF ?_ ?_ | refine t_region fun K => ?_ | refine t_cond fun A B => ?_ | refine t_draw (by kernel_rfl) fun K => ?_); (try (first | refine t_hideE fun KL => ?_ | refine t_hideD fun KL => ?_)); simp only [go_sem, geff, kp6, lexV, hq, h1])
     | ((with_reducible refine kp_skip ?_ ?_); rfl) | simp only [thenQ, blockQ, scopeQ, Nat.reduceEqDiff, reduceIte] | (with_reducible first | refine And.intro ?_ ?_ | intro vr))
    all_goals try (first | (with_reducible assumption) | (intros; (try simp only [Bool.and_eq_true, Bool.or_eq_true, Bool.or_eq_false_iff, Bool.not_eq_true', Bool.not_eq_false', decide_eq_true_eq, decide_eq_false_iff_not, beq_iff_eq, beq_eq_false_iff_ne, bne_iff_ne, bne_eq_false_iff_eq, ne_eq, inI64, List.length_append] at *) <;> omega) | (intros; (with_reducible first | refine impB_ofR ?_ | refine and_ofB ?_ ?_) <;> with_reducible first | assumption | (refine impB_ofR ?_; assumption)) | ((try simp only [Bool.and_eq_true] at vr); simp only [impB, vr, Bool.or_true, Bool.true_or, Bool.and_self, Bool.not_true, Bool.not_false, Bool.and_true]; done))
    refine t_loopF (ι := { p : Nat × Nat × Nat // p.1 ≤ ts.length ∧ p.2.1 ≤ l.length ∧ Tk l p.2.1 p.2.2 (ts.drop p.1) }) (fun i => [(6, .lit (.int .i64 i.1.1))]) (fun i => []) (fun i => ts.length - i.1.1) ⟨(0, 0, 1), by simp only; omega, by simp only; omega, by simpa using hT⟩ ?_ ?_
    · simp only [updL_nil, updL_cons, delF_top, delF_upd, Nat.reduceEqDiff, reduceIte]
      refine Le.frameS (by first | rfl | (simp only [go_sem]; try rfl)) ?_
      repeat' (first | exact leF_top _ | exact (fun _ => LeR.refl _) | (with_reducible refine leF_sl ?_ ?_) | (refine leF_upd ?_ ?_))
      all_goals (first | exact LeR.top _ | exact LeR.refl _ | (refine LeR.of_eq ?_; (try simp only [go_sem]); try rfl) | ((try simp only [go_sem]); try rfl))
    rintro ⟨⟨i, fr, ln⟩, hi, hf, hK⟩ K0
    simp only at hi hf hK
    rcases Nat.lt_or_ge i ts.length with hlt | hge
    · have g5 : decide ((i : Int) < (ts.length : Int)) = true := decide_eq_true (by omega)
      rw [drop_tk hlt] at hK
      generalize hx : ts.getD i ⟨0, [], 0, 0⟩ = x at *
      obtain ⟨k1, k2, k3, k4, k5, k6⟩ := hK
      have hfl := firstS_len (l.drop (fr + blk false (l.drop fr)))
      rw [k3] at hfl
      simp only [List.length_drop] at hfl
      have hw := hfl.2 k2
      have hL := lex_longer k3 k2
      have hB := first_behind k3 k2
      simp only [List.length_drop] at hL hB
      generalize hk : blk false (l.drop fr) = k at *
      obtain ⟨xk, xt, xl, xa⟩ := x
      simp only at k2 k3 k4 k5 k6 hfl hw hL hB
      subst k4 k5
      have e1 : (((fr + k : Nat) : Int) + (xt.length : Int)) = ((fr + k + xt.length : Nat) : Int) := by omega
      rcases Nat.lt_or_ge (fr + k + xt.length) l.length with hend | hend
      · have a1 : decide (((fr + k + xt.length : Nat) : Int) ≥ (l.length : Int)) = false := decide_eq_false (by omega)
        have e2 : (((fr + k + xt.length : Nat) : Int) + 1).toNat = fr + k + xt.length + 1 := by omega
        have e3 : (l.take (fr + k + xt.length + 1)).drop (fr + k) = (l.drop (fr + k)).take (xt.length + 1) := by rw [List.drop_take]; congr 1; omega
        have e4 : (l.drop (fr + k)).getD xt.length 0 = l.getD (fr + k + xt.length) 0 := by simp [List.getD_eq_getElem?_getD, List.getElem?_drop]
        rw [e4] at hB
        have hL := hL (by omega)
        have hB := hB (by omega)
        have hmlen := lexS_len ((l.drop (fr + k)).take (xt.length + 1))
        generalize hm : lexS ((l.drop (fr + k)).take (xt.length + 1)) = m at hL hmlen
        obtain ⟨ms, ma, me⟩ := m
        simp only at hL hmlen
        have hC : ((xk != 4) && ((smN (bt l (fr + k + xt.length)) && (xk != 3)) || dgN (bt l (fr + k + xt.length)))) = false := by
          rw [smN_bt, dgN_bt]
          rcases hB with h | ⟨h, h | h⟩
          · rw [h]; rfl
          · rw [h]; simp_all
          · rw [h]; simp_all
        repeat' (first
         | (with_reducible first | refine t_seq fun K => ?_ | refine t_block ?_ | refine t_scope ?_ | refine t_label ?_ | refine t_skip ?_ | refine t_exit ?_ | refine t_ret ?_ | refine t_k ?_ | refine t_gF ?_ | exact kp_nil | exact Kp.refl _ | exact kp_to | refine kp_cons ?_ | refine kp_arr ?_ | refine kp_app ?_ | refine t_p ?_ | refine t_br (fun hc => ?_) fun hc => ?_)
         | ((with_reducible first | refine t_kE (t_openE ?_) | refine t_kD (t_openD ?_) | refine t_kE ?_ | refine t_kD ?_ | refine t_gS ?_ | refine t_kL ?_ | refine t_kLF ?_ ?_ | refine t_region fun K => ?_ | refine t_cond fun A B => ?_ | refine t_draw (by kernel_rfl) fun K => ?_); (try (first | refine t_hideE fun KL => ?_ | refine t_hideD fun KL => ?_)); simp only [go_sem, geff, kp6, updL_cons, updL_nil, g5, Int.toNat_natCast, hx, tokV, e1, a1, e2, e3, hm, lexV])
         | ((with_reducible refine kp_skip ?_ ?_); rfl) | simp only [thenQ, blockQ, scopeQ, Nat.reduceEqDiff, reduceIte] | (with_reducible first | refine And.intro ?_ ?_ | intro vr))
        all_goals try (first | (with_reducible assumption) | (intros; (try simp only [Bool.and_eq_true, Bool.or_eq_true, Bool.or_eq_false_iff, Bool.not_eq_true', Bool.not_eq_false', decide_eq_true_eq, decide_eq_false_iff_not, beq_iff_eq, beq_eq_false_iff_ne, bne_iff_ne, bne_eq_false_iff_eq, ne_eq, inI64, List.length_append, List.length_take, List.length_drop] at *) <;> omega) | (intros; (with_reducible first | refine impB_ofR ?_ | refine and_ofB ?_ ?_) <;> with_reducible first | assumption | (refine impB_ofR ?_; assumption)) | ((try simp only [Bool.and_eq_true] at vr); simp only [impB, vr, Bool.or_true, Bool.true_or, Bool.and_self, Bool.not_true, Bool.not_false, Bool.and_true]; done))
        · exfalso
          simp only [smN, dgN] at hC
          rw [hL, hC] at hc
          cases hc
        · skip
          refine ⟨⟨(i + 1, fr + k + xt.length, ln + nls ((l.drop fr).take k)), by simp only; omega, by simp only; omega, k6⟩, by first | (simp only; omega) | omega, ?_⟩
          simp only [updL_nil, updL_cons, delF_top, delF_upd, Nat.reduceEqDiff, reduceIte]
          refine Le.frameS (by first | rfl | (simp only [go_sem]; try rfl)) ?_
          repeat' (first | exact leF_top _ | exact (fun _ => LeR.refl _) | (with_reducible refine leF_sl ?_ ?_) | (refine leF_upd ?_ ?_))
          all_goals (first | exact LeR.top _ | exact LeR.refl _ | (refine LeR.of_eq ?_; (try simp only [go_sem]); try rfl) | ((try simp only [go_sem]); try rfl))
      · have a1 : decide (((fr + k + xt.length : Nat) : Int) ≥ (l.length : Int)) = true := decide_eq_true (by omega)
        repeat' (first
         | (with_reducible first | refine t_seq fun K => ?_ | refine t_block ?_ | refine t_scope ?_ | refine t_label ?_ | refine t_skip ?_ | refine t_exit ?_ | refine t_ret ?_ | refine t_k ?_ | refine t_gF ?_ | exact kp_nil | exact Kp.refl _ | exact kp_to | refine kp_cons ?_ | refine kp_arr ?_ | refine kp_app ?_ | refine t_p ?_ | refine t_br (fun hc => ?_) fun hc => ?_)
         | ((with_reducible first | refine t_kE (t_openE ?_) | refine t_kD (t_openD ?_) | refine t_kE ?_ | refine t_kD ?_ | refine t_gS ?_ | refine t_kL ?_ | refine t_kLF ?_ ?_ | refine t_region fun K => ?_ | refine t_cond fun A B => ?_ | refine t_draw (by kernel_rfl) fun K => ?_); (try (first | refine t_hideE fun KL => ?_ | refine t_hideD fun KL => ?_)); simp only [go_sem, geff, kp6, updL_cons, updL_nil, g5, Int.toNat_natCast, hx, tokV, e1, a1])
         | ((with_reducible refine kp_skip ?_ ?_); rfl) | simp only [thenQ, blockQ, scopeQ, Nat.reduceEqDiff, reduceIte] | (with_reducible first | refine And.intro ?_ ?_ | intro vr))
        all_goals try (first | (with_reducible assumption) | (intros; (try simp only [Bool.and_eq_true, Bool.or_eq_true, Bool.or_eq_false_iff, Bool.not_eq_true', Bool.not_eq_false', decide_eq_true_eq, decide_eq_false_iff_not, beq_iff_eq, beq_eq_false_iff_ne, bne_iff_ne, bne_eq_false_iff_eq, ne_eq, inI64, List.length_append, List.length_take, List.length_drop] at *) <;> omega) | (intros; (with_reducible first | refine impB_ofR ?_ | refine and_ofB ?_ ?_) <;> with_reducible first | assumption | (refine impB_ofR ?_; assumption)) | ((try simp only [Bool.and_eq_true] at vr); simp only [impB, vr, Bool.or_true, Bool.true_or, Bool.and_self, Bool.not_true, Bool.not_false, Bool.and_true]; done))
        refine ⟨⟨(i + 1, fr + k + xt.length, ln + nls ((l.drop fr).take k)), by simp only; omega, by simp only; omega, k6⟩, by first | (simp only; omega) | omega, ?_⟩
        simp only [updL_nil, updL_cons, delF_top, delF_upd, Nat.reduceEqDiff, reduceIte]
        refine Le.frameS (by first | rfl | (simp only [go_sem]; try rfl)) ?_
        repeat' (first | exact leF_top _ | exact (fun _ => LeR.refl _) | (with_reducible refine leF_sl ?_ ?_) | (refine leF_upd ?_ ?_))
        all_goals (first | exact LeR.top _ | exact LeR.refl _ | (refine LeR.of_eq ?_; (try simp only [go_sem]); try rfl) | ((try simp only [go_sem]); try rfl))
    · have g5 : decide ((i : Int) < (ts.length : Int)) = false := decide_eq_false (by omega)
      repeat' (first
       | (with_reducible first | refine t_seq fun K => ?_ | refine t_block ?_ | refine t_scope ?_ | refine t_label ?_ | refine t_skip ?_ | refine t_exit ?_ | refine t_ret ?_ | refine t_k ?_ | refine t_gF ?_ | exact kp_nil | exact Kp.refl _ | exact kp_to | refine kp_cons ?_ | refine kp_arr ?_ | refine kp_app ?_ | refine t_p ?_ | refine t_br (fun hc => ?_) fun hc => ?_)
       | ((with_reducible first | refine t_kE (t_openE ?_) | refine t_kD (t_openD ?_) | refine t_kE ?_ | refine t_kD ?_ | refine t_gS ?_ | refine t_kL ?_ | refine t_kLF ?_ ?_ | refine t_region fun K => ?_ | refine t_cond fun A B => ?_ | refine t_draw (by kernel_rfl) fun K => ?_); (try (first | refine t_hideE fun KL => ?_ | refine t_hideD fun KL => ?_)); simp only [go_sem, geff, kp6, updL_cons, updL_nil, g5, Int.toNat_natCast])
       | ((with_reducible refine kp_skip ?_ ?_); rfl) | simp only [thenQ, blockQ, scopeQ, Nat.reduceEqDiff, reduceIte] | (with_reducible first | refine And.intro ?_ ?_ | intro vr))
      all_goals try (first | (with_reducible assumption) | (intros; (try simp only [Bool.and_eq_true, Bool.or_eq_true, Bool.or_eq_false_iff, Bool.not_eq_true', Bool.not_eq_false', decide_eq_true_eq, decide_eq_false_iff_not, beq_iff_eq, beq_eq_false_iff_ne, bne_iff_ne, bne_eq_false_iff_eq, ne_eq, inI64, List.length_append] at *) <;> omega) | (intros; (with_reducible first | refine impB_ofR ?_ | refine and_ofB ?_ ?_) <;> with_reducible first | assumption | (refine impB_ofR ?_; assumption)) | ((try simp only [Bool.and_eq_true] at vr); simp only [impB, vr, Bool.or_true, Bool.true_or, Bool.and_self, Bool.not_true, Bool.not_false, Bool.and_true]; done))
      all_goals ((first | refine end_retE ?_ | refine end_normE ?_); simp only [fin, go_sem])
      exact LeA.refl _
theorem law6_law : ∀ xs, ShL Tryd.prog Tryd.f6.params.toList xs → PC Tryd.prog 6 xs (.lit (.bool true))
  | [x], h => by
    obtain ⟨s, rfl, _⟩ := shv_str u9 h.1
    exact law6
  | [], h => h.elim
  | _ :: _ :: _, h => h.2.elim
end Go.Proofs.YtkkamgblakhmiaaDoor
