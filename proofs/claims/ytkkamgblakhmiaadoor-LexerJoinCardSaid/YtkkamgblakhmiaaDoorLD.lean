/- What is known of the tokens of a text. -/
import Derived.Test.YtkkamgblakhmiaaDoorLC

set_option linter.all false

namespace Go.Proofs.YtkkamgblakhmiaaDoor
open Go Go.Fw

/-- The tokens from a place on, with the line there. -/
def Tk (l : List UInt8) : Nat → Nat → List Tok → Prop
  | i, _, [] => i + blk false (l.drop i) = l.length
  | i, line, t :: ts => i + blk false (l.drop i) < l.length ∧ t.k ≠ 0 ∧ firstS (l.drop (i + blk false (l.drop i))) = (t.k, t.t) ∧ t.at_ = ((i + blk false (l.drop i) : Nat) : Int) ∧
      t.line = ((line + nls ((l.drop i).take (blk false (l.drop i))) : Nat) : Int) ∧ Tk l (i + blk false (l.drop i) + t.t.length) (line + nls ((l.drop i).take (blk false (l.drop i)))) ts
theorem drop_nil_iff {l : List UInt8} {j : Nat} (h : j ≤ l.length) : l.drop j = [] ↔ j = l.length := by
  rw [List.drop_eq_nil_iff]; omega
theorem lexG_tk {l : List UInt8} : ∀ (n i line : Nat) (acc r : List Tok) (a : Int), i ≤ l.length → l.length - i < n → lexG n (l.drop i) line i acc = (r, a, 0) → a = 0 ∧ ∃ ts, r = acc ++ ts ∧ Tk l i line ts
  | 0, _, _, _, _, _, _, hn, _ => absurd hn (by omega)
  | n + 1, i, line, acc, r, a, hi, hn, h => by
    rw [lexG_step] at h
    have hk := blk_le false (l.drop i)
    have hl : (l.drop i).length = l.length - i := by simp
    rw [List.drop_drop] at h
    by_cases h1 : i + blk false (l.drop i) = l.length
    · rw [if_pos ((drop_nil_iff (by omega)).2 h1)] at h
      cases h
      exact ⟨rfl, [], by simp, h1⟩
    · rw [if_neg (fun e => h1 ((drop_nil_iff (by omega)).1 e))] at h
      have hf := firstS_len (l.drop (i + blk false (l.drop i)))
      generalize hr : firstS (l.drop (i + blk false (l.drop i))) = q at h hf
      obtain ⟨kd, w⟩ := q
      simp only at h hf
      split at h
      · cases h
      · rename_i h2
        split at h
        · cases h
        · rename_i h3
          have hw := hf.2 h2
          have hwl := hf.1
          simp only [List.length_drop] at hwl
          rw [List.drop_drop] at h
          have e1 : (i : Int) + (blk false (l.drop i) : Int) = ((i + blk false (l.drop i) : Nat) : Int) := by omega
          have e2 : (line : Int) + (nls ((l.drop i).take (blk false (l.drop i))) : Int) = ((line + nls ((l.drop i).take (blk false (l.drop i))) : Nat) : Int) := by omega
          have e3 : ((i + blk false (l.drop i) : Nat) : Int) + (w.length : Int) = ((i + blk false (l.drop i) + w.length : Nat) : Int) := by omega
          rw [e1, e2, e3] at h
          obtain ⟨h4, ts, h5, h6⟩ := lexG_tk n _ _ _ _ _ (by omega) (by omega) h
          exact ⟨h4, ⟨kd, w, _, _⟩ :: ts, by rw [h5, List.append_assoc]; rfl, by omega, h2, hr, rfl, rfl, h6⟩
theorem tk_lexG {l : List UInt8} : ∀ (n i line : Nat) (acc ts : List Tok), i ≤ l.length → l.length - i < n → acc.length + ts.length ≤ 4000 → Tk l i line ts → lexG n (l.drop i) line i acc = (acc ++ ts, 0, 0)
  | 0, _, _, _, _, _, hn, _, _ => absurd hn (by omega)
  | n + 1, i, line, acc, [], hi, hn, _, h => by
    rw [lexG_step, List.drop_drop, if_pos ((drop_nil_iff (by have : i + blk false (l.drop i) = l.length := h; omega)).2 h)]
    simp
  | n + 1, i, line, acc, t :: ts, hi, hn, hc, h => by
    obtain ⟨h1, h2, h3, h4, h5, h6⟩ := h
    have hf := firstS_len (l.drop (i + blk false (l.drop i)))
    rw [h3] at hf
    simp only [List.length_drop] at hf
    have hw := hf.2 h2
    simp only [List.length_cons] at hc
    rw [lexG_step, List.drop_drop, if_neg (fun e => by have := (drop_nil_iff (by omega)).1 e; omega), h3]
    simp only
    rw [if_neg h2, if_neg (by omega), List.drop_drop]
    have e1 : (i : Int) + (blk false (l.drop i) : Int) = ((i + blk false (l.drop i) : Nat) : Int) := by omega
    have e2 : (line : Int) + (nls ((l.drop i).take (blk false (l.drop i))) : Int) = ((line + nls ((l.drop i).take (blk false (l.drop i))) : Nat) : Int) := by omega
    have e3 : ((i + blk false (l.drop i) : Nat) : Int) + (t.t.length : Int) = ((i + blk false (l.drop i) + t.t.length : Nat) : Int) := by omega
    rw [e1, e2, e3, tk_lexG n _ _ _ ts (by omega) (by omega) (by simp; omega) h6, ← h4, ← h5]
    simp
theorem lexS_tk {l : List UInt8} {r : List Tok} {a : Int} (h : lexS l = (r, a, 0)) : a = 0 ∧ Tk l 0 1 r ∧ l.length ≤ 20000 := by
  unfold lexS at h
  split at h
  · cases h
  · have h' : lexG (l.length + 1) (l.drop 0) ((1 : Nat) : Int) ((0 : Nat) : Int) [] = (r, a, 0) := by simpa using h
    obtain ⟨h1, ts, h2, h3⟩ := lexG_tk _ _ _ _ _ _ (by omega) (by omega) h'
    rw [h2]
    exact ⟨h1, by simpa using h3, by omega⟩
theorem tk_lexS {l : List UInt8} {ts : List Tok} (h : Tk l 0 1 ts) (hl : l.length ≤ 20000) (hc : ts.length ≤ 4000) : lexS l = (ts, 0, 0) := by
  unfold lexS
  rw [if_neg (by omega)]
  have := tk_lexG (l.length + 1) 0 1 [] ts (by omega) (by omega) (by simpa using hc) h
  simpa using this
/-! ### Blanks alone -/
def blSt : Bool → List UInt8 → Option Bool
  | b, [] => some b
  | true, c :: l => blSt (c != 10) l
  | false, c :: l => if (c == 32 || c == 9 || c == 10) = true then blSt false l else if (c == 47 && l.head? == some 47) = true then blSt true l else none
theorem blk_pos {l : List UInt8} {c : UInt8} (h : l.head? = some c) : 0 < blk true l := by
  cases l with
  | nil => cases h
  | cons d l => simp [blk]
theorem head_take {l : List UInt8} {n : Nat} (h : 0 < n) : (l.take n).head? = l.head? := by
  cases l with
  | nil => simp
  | cons c l => cases n with
    | zero => omega
    | succ n => rfl
theorem blSt_take (d : List UInt8) : ∀ b, ∃ c, blSt b (d.take (blk b d)) = some c ∧ (c = true → blk b d = d.length) := by
  induction d with
  | nil => intro b; exact ⟨b, by cases b <;> rfl, fun _ => by cases b <;> rfl⟩
  | cons c d ih =>
    intro b
    cases b with
    | true =>
      obtain ⟨x, h1, h2⟩ := ih (c != 10)
      refine ⟨x, ?_, fun e => by simp only [blk, h2 e, List.length_cons]⟩
      simp only [blk, List.take_succ_cons, blSt, h1]
    | false =>
      by_cases hb : (c == 32 || c == 9 || c == 10) = true
      · obtain ⟨x, h1, h2⟩ := ih false
        refine ⟨x, ?_, fun e => by simp only [blk, if_pos hb, h2 e, List.length_cons]⟩
        simp only [blk, if_pos hb, List.take_succ_cons, blSt, h1]
      · by_cases hs : (c == 47 && d.head? == some 47) = true
        · obtain ⟨x, h1, h2⟩ := ih true
          refine ⟨x, ?_, fun e => by simp only [blk, if_neg hb, if_pos hs, h2 e, List.length_cons]⟩
          have hd : d.head? = some 47 := by simp only [Bool.and_eq_true, beq_iff_eq] at hs; exact hs.2
          simp only [blk, if_neg hb, if_pos hs, List.take_succ_cons, blSt]
          rw [head_take (blk_pos hd), if_pos hs, h1]
        · refine ⟨false, ?_, fun e => by cases e⟩
          simp only [blk, if_neg hb, if_neg hs, List.take_zero, blSt]
/-- A text of blanks and comments. -/
def optB (e : Bool) : Option Bool → Bool
  | none => false
  | some c => !c || e
def blOk (e : Bool) (l : List UInt8) : Bool := optB e (blSt false l)
theorem blOk_take {d : List UInt8} {e : Bool} (h : e = true ∨ blk false d < d.length) : blOk e (d.take (blk false d)) = true := by
  obtain ⟨c, h1, h2⟩ := blSt_take d false
  unfold blOk
  rw [h1]
  cases c with
  | false => rfl
  | true =>
    rcases h with h | h
    · rw [h]; rfl
    · have := h2 rfl; omega
end Go.Proofs.YtkkamgblakhmiaaDoor

/- Texts of blanks and comments alone. -/
namespace Go.Proofs.YtkkamgblakhmiaaDoor
open Go Go.Fw
set_option maxRecDepth 20000

noncomputable def E30 : Env := envJ (P := Tryd.prog) jk zer (fun _ => false) (fun _ => false) [] []
theorem E30_ok : EnvOk Tryd.prog E30 := envJOk zer_ok
theorem btn32 (l : List UInt8) (i : Nat) : (bt l i != 32) = !(l.getD i 0 == 32) := by rw [← bt32]; rfl
theorem btn9 (l : List UInt8) (i : Nat) : (bt l i != 9) = !(l.getD i 0 == 9) := by rw [← bt9]; rfl
set_option maxHeartbeats 2000000 in
theorem lblank_pc {s : ByteArray} {e : Bool} (hs : s.size ≤ 9223372036854775806) : PC Tryd.prog 15 [.lit (.string s), .lit (.bool e)] (.lit (.bool (blOk e (ul s)))) := by
  obtain ⟨l, rfl⟩ := bs_ex s
  simp only [ul_bs, bs_size] at *
  generalize hR : blSt false l = R
  have hO : blOk e l = optB e R := by unfold blOk; rw [hR]
  refine pc_ofR E30_ok mixed (kp15) (rs := [.tmp 4]) Tryd.func15 rfl (by kernel_rfl) (by kernel_rfl) (Nat.le_of_ble_eq_true rfl) ?_
  simp only [initF_cons, initF_nil, Nat.reduceAdd]
  refine t_name fun KF => ?_
  unfold E30
  repeat' (first
   | (with_reducible first | refine t_seq fun K => ?_ | refine t_block ?_ | refine t_scope ?_ | refine t_label ?_ | refine t_skip ?_ | refine t_exit ?_ | refine t_ret ?_ | refine t_k ?_ | refine t_gF ?_ | exact kp_nil | exact Kp.refl _ | exact kp_to | refine kp_cons ?_ | refine kp_arr ?_ | refine kp_app ?_ | refine t_p ?_ | refine t_br (fun hc => ?_) fun hc => ?_)
   | ((with_reducible first | refine t_kE (t_openE ?_) | refine t_kD (t_openD ?_) | refine t_kE ?_ | refine t_kD ?_ | refine t_gS ?_ | refine t_kL ?_ | refine t_kLF ?_ ?_ | refine t_region fun K => ?_ | refine t_cond fun A B => ?_ | refine t_draw (by kernel_rfl) fun K => ?_); (try (first | refine t_hideE fun KL => ?_ | refine t_hideD fun KL => ?_)); simp only [go_sem, geff, kp15])
   | ((with_reducible refine kp_skip ?_ ?_); rfl) | simp only [thenQ, blockQ, scopeQ, Nat.reduceEqDiff, reduceIte] | (with_reducible first | refine And.intro ?_ ?_ | intro vr))
  all_goals try (first | (with_reducible assumption) | (intros; (try simp only [Bool.and_eq_true, Bool.or_eq_true, Bool.or_eq_false_iff, Bool.not_eq_true', Bool.not_eq_false', decide_eq_true_eq, decide_eq_false_iff_not, beq_iff_eq, beq_eq_false_iff_ne, bne_iff_ne, bne_eq_false_iff_eq, ne_eq, inI64, List.length_append] at *) <;> omega) | (intros; (with_reducible first | refine impB_ofR ?_ | refine and_ofB ?_ ?_) <;> with_reducible first | assumption | (refine impB_ofR ?_; assumption)) | ((try simp only [Bool.and_eq_true] at vr); simp only [impB, vr, Bool.or_true, Bool.true_or, Bool.and_self, Bool.not_true, Bool.not_false, Bool.and_true]; done))
  refine t_loopF (ι := { i : Nat // (i ≤ l.length ∧ blSt false (l.drop i) = R) ∨ (i = l.length + 1 ∧ blOk e l = true) }) (fun i => [(5, .lit (.int .i64 i.1))]) (fun i => []) (fun i => l.length + 1 - i.1) ⟨0, .inl ⟨by omega, by simpa using hR⟩⟩ ?_ ?_
  · simp only [updL_nil, updL_cons, delF_top, delF_upd, Nat.reduceEqDiff, reduceIte]
    refine Le.frameS (by first | rfl | (simp only [go_sem]; try rfl)) ?_
    repeat' (first | exact leF_top _ | exact (fun _ => LeR.refl _) | (with_reducible refine leF_sl ?_ ?_) | (refine leF_upd ?_ ?_))
    all_goals (first | exact LeR.top _ | exact LeR.refl _ | (refine LeR.of_eq ?_; (try simp only [go_sem]); try rfl) | ((try simp only [go_sem]); try rfl))
  rintro ⟨i, hi⟩ K0
  rcases Nat.lt_or_ge i l.length with hlt | hge
  · obtain ⟨hi, hF⟩ : i ≤ l.length ∧ blSt false (l.drop i) = R := by
      rcases hi with h | h
      · exact h
      · omega
    have g5 : decide ((i : Int) < (l.length : Int)) = true := decide_eq_true (by omega)
    have hdr := drop_cons hlt
    have e1 : ((i : Int) + 1).toNat = i + 1 := by omega
    have d1 : decide ((i : Int) + 1 < (l.length : Int)) = decide (i + 1 < l.length) := by rw [decide_eq_decide]; omega
    cases h2 : (l.getD i 0 == 47 && (l.drop (i + 1)).head? == some 47) with
    | true =>
      have h1 : (l.getD i 0 == 32 || l.getD i 0 == 9 || l.getD i 0 == 10) = false := by
        have : l.getD i 0 = 47 := by simp only [Bool.and_eq_true, beq_iff_eq] at h2; exact h2.1
        rw [this]; rfl
      have hbt : blSt true (l.drop i) = R := by
        have : (l.getD i 0 != 10) = true := by
          simp only [Bool.or_eq_false_iff] at h1
          simp only [bne, h1.2]; rfl
        rw [hdr, blSt, if_neg (by rw [h1]; simp), if_pos h2] at hF
        rw [hdr, blSt, this]; exact hF
      rw [head_drop] at h2
      simp only [Bool.and_eq_true] at h2
      have h47 := h2.1
      have hl1 := h2.2.1
      have h48 := h2.2.2
      repeat' (first
       | (with_reducible first | refine t_seq fun K => ?_ | refine t_block ?_ | refine t_scope ?_ | refine t_label ?_ | refine t_skip ?_ | refine t_exit ?_ | refine t_ret ?_ | refine t_k ?_ | refine t_gF ?_ | exact kp_nil | exact Kp.refl _ | exact kp_to | refine kp_cons ?_ | refine kp_arr ?_ | refine kp_app ?_ | refine t_p ?_ | refine t_br (fun hc => ?_) fun hc => ?_)
       | ((with_reducible first | refine t_kE (t_openE ?_) | refine t_kD (t_openD ?_) | refine t_kE ?_ | refine t_kD ?_ | refine t_gS ?_ | refine t_kL ?_ | refine t_kLF ?_ ?_ | refine t_region fun K => ?_ | refine t_cond fun A B => ?_ | refine t_draw (by kernel_rfl) fun K => ?_); (try (first | refine t_hideE fun KL => ?_ | refine t_hideD fun KL => ?_)); simp only [go_sem, geff, kp15, updL_cons, updL_nil, g5, Int.toNat_natCast, bt47, h47, hl1, h48, e1, d1])
       | ((with_reducible refine kp_skip ?_ ?_); rfl) | simp only [thenQ, blockQ, scopeQ, Nat.reduceEqDiff, reduceIte] | (with_reducible first | refine And.intro ?_ ?_ | intro vr))
      all_goals try (first | (with_reducible assumption) | (intros; (try simp only [Bool.and_eq_true, Bool.or_eq_true, Bool.or_eq_false_iff, Bool.not_eq_true', Bool.not_eq_false', decide_eq_true_eq, decide_eq_false_iff_not, beq_iff_eq, beq_eq_false_iff_ne, bne_iff_ne, bne_eq_false_iff_eq, ne_eq, inI64, List.length_append] at *) <;> omega) | (intros; (with_reducible first | refine impB_ofR ?_ | refine and_ofB ?_ ?_) <;> with_reducible first | assumption | (refine impB_ofR ?_; assumption)) | ((try simp only [Bool.and_eq_true] at vr); simp only [impB, vr, Bool.or_true, Bool.true_or, Bool.and_self, Bool.not_true, Bool.not_false, Bool.and_true]; done))
      refine t_loopF (ι := { j : Nat // i ≤ j ∧ j ≤ l.length ∧ blSt true (l.drop j) = R }) (fun i => [(5, .lit (.int .i64 i.1)), (29, .top)]) (fun i => []) (fun i => l.length - i.1) ⟨i, by omega, by omega, hbt⟩ ?_ ?_
      · simp only [updL_nil, updL_cons, delF_top, delF_upd, Nat.reduceEqDiff, reduceIte]
        refine Le.frameS (by first | rfl | (simp only [go_sem]; try rfl)) ?_
        repeat' (first | exact leF_top _ | exact (fun _ => LeR.refl _) | (with_reducible refine leF_sl ?_ ?_) | (refine leF_upd ?_ ?_))
        all_goals (first | exact LeR.top _ | exact LeR.refl _ | (refine LeR.of_eq ?_; (try simp only [go_sem]); try rfl) | ((try simp only [go_sem]); try rfl))
      rintro ⟨j, hij, hj, hG⟩ K1
      rcases Nat.lt_or_ge j l.length with hlt2 | hge2
      · have g6 : decide ((j : Int) < (l.length : Int)) = true := decide_eq_true (by omega)
        have g7 : ((j : Int) == (l.length : Int)) = false := by rw [beq_eq_false_iff_ne]; omega
        have hdr2 := drop_cons hlt2
        cases h3 : (l.getD j 0 == 10) with
        | false =>
          repeat' (first
           | (with_reducible first | refine t_seq fun K => ?_ | refine t_block ?_ | refine t_scope ?_ | refine t_label ?_ | refine t_skip ?_ | refine t_exit ?_ | refine t_ret ?_ | refine t_k ?_ | refine t_gF ?_ | exact kp_nil | exact Kp.refl _ | exact kp_to | refine kp_cons ?_ | refine kp_arr ?_ | refine kp_app ?_ | refine t_p ?_ | refine t_br (fun hc => ?_) fun hc => ?_)
           | ((with_reducible first | refine t_kE (t_openE ?_) | refine t_kD (t_openD ?_) | refine t_kE ?_ | refine t_kD ?_ | refine t_gS ?_ | refine t_kL ?_ | refine t_kLF ?_ ?_ | refine t_region fun K => ?_ | refine t_cond fun A B => ?_ | refine t_draw (by kernel_rfl) fun K => ?_); (try (first | refine t_hideE fun KL => ?_ | refine t_hideD fun KL => ?_)); simp only [go_sem, geff, kp15, updL_cons, updL_nil, g6, Int.toNat_natCast, btn10, h3])
           | ((with_reducible refine kp_skip ?_ ?_); rfl) | simp only [thenQ, blockQ, scopeQ, Nat.reduceEqDiff, reduceIte] | (with_reducible first | refine And.intro ?_ ?_ | intro vr))
          all_goals try (first | (with_reducible assumption) | (intros; (try simp only [Bool.and_eq_true, Bool.or_eq_true, Bool.or_eq_false_iff, Bool.not_eq_true', Bool.not_eq_false', decide_eq_true_eq, decide_eq_false_iff_not, beq_iff_eq, beq_eq_false_iff_ne, bne_iff_ne, bne_eq_false_iff_eq, ne_eq, inI64, List.length_append] at *) <;> omega) | (intros; (with_reducible first | refine impB_ofR ?_ | refine and_ofB ?_ ?_) <;> with_reducible first | assumption | (refine impB_ofR ?_; assumption)) | ((try simp only [Bool.and_eq_true] at vr); simp only [impB, vr, Bool.or_true, Bool.true_or, Bool.and_self, Bool.not_true, Bool.not_false, Bool.and_true]; done))
          refine ⟨⟨j + 1, by omega, by omega, by rw [hdr2, blSt, show (l.getD j 0 != 10) = true by simp only [bne, h3]; rfl] at hG; exact hG⟩, by first | (simp only; omega) | omega, ?_⟩
          simp only [updL_nil, updL_cons, delF_top, delF_upd, Nat.reduceEqDiff, reduceIte]
          refine Le.frameS (by first | rfl | (simp only [go_sem]; try rfl)) ?_
          repeat' (first | exact leF_top _ | exact (fun _ => LeR.refl _) | (with_reducible refine leF_sl ?_ ?_) | (refine leF_upd ?_ ?_))
          all_goals (first | exact LeR.top _ | exact LeR.refl _ | (refine LeR.of_eq ?_; (try simp only [go_sem]); try rfl) | ((try simp only [go_sem]); try rfl))
        | true =>
          repeat' (first
           | (with_reducible first | refine t_seq fun K => ?_ | refine t_block ?_ | refine t_scope ?_ | refine t_label ?_ | refine t_skip ?_ | refine t_exit ?_ | refine t_ret ?_ | refine t_k ?_ | refine t_gF ?_ | exact kp_nil | exact Kp.refl _ | exact kp_to | refine kp_cons ?_ | refine kp_arr ?_ | refine kp_app ?_ | refine t_p ?_ | refine t_br (fun hc => ?_) fun hc => ?_)
           | ((with_reducible first | refine t_kE (t_openE ?_) | refine t_kD (t_openD ?_) | refine t_kE ?_ | refine t_kD ?_ | refine t_gS ?_ | refine t_kL ?_ | refine t_kLF ?_ ?_ | refine t_region fun K => ?_ | refine t_cond fun A B => ?_ | refine t_draw (by kernel_rfl) fun K => ?_); (try (first | refine t_hideE fun KL => ?_ | refine t_hideD fun KL => ?_)); simp only [go_sem, geff, kp15, updL_cons, updL_nil, g6, g7, Int.toNat_natCast, btn10, h3])
           | ((with_reducible refine kp_skip ?_ ?_); rfl) | simp only [thenQ, blockQ, scopeQ, Nat.reduceEqDiff, reduceIte] | (with_reducible first | refine And.intro ?_ ?_ | intro vr))
          all_goals try (first | (with_reducible assumption) | (intros; (try simp only [Bool.and_eq_true, Bool.or_eq_true, Bool.or_eq_false_iff, Bool.not_eq_true', Bool.not_eq_false', decide_eq_true_eq, decide_eq_false_iff_not, beq_iff_eq, beq_eq_false_iff_ne, bne_iff_ne, bne_eq_false_iff_eq, ne_eq, inI64, List.length_append] at *) <;> omega) | (intros; (with_reducible first | refine impB_ofR ?_ | refine and_ofB ?_ ?_) <;> with_reducible first | assumption | (refine impB_ofR ?_; assumption)) | ((try simp only [Bool.and_eq_true] at vr); simp only [impB, vr, Bool.or_true, Bool.true_or, Bool.and_self, Bool.not_true, Bool.not_false, Bool.and_true]; done))
          refine ⟨⟨j + 1, .inl ⟨by omega, by rw [hdr2, blSt, show (l.getD j 0 != 10) = false by simp only [bne, h3]; rfl] at hG; exact hG⟩⟩, by first | (simp only; omega) | omega, ?_⟩
          simp only [updL_nil, updL_cons, delF_top, delF_upd, Nat.reduceEqDiff, reduceIte]
          refine Le.frameS (by first | rfl | (simp only [go_sem]; try rfl)) ?_
          repeat' (first | exact leF_top _ | exact (fun _ => LeR.refl _) | (with_reducible refine leF_sl ?_ ?_) | (refine leF_upd ?_ ?_))
          all_goals (first | exact LeR.top _ | exact LeR.refl _ | (refine LeR.of_eq ?_; (try simp only [go_sem]); try rfl) | ((try simp only [go_sem]); try rfl))
      · have g6 : decide ((j : Int) < (l.length : Int)) = false := decide_eq_false (by omega)
        have e : j = l.length := by omega
        subst e
        have g7 : ((l.length : Int) == (l.length : Int)) = true := by simp
        rw [List.drop_length, blSt] at hG
        subst hG
        simp only [optB] at hO
        repeat' (first
         | (with_reducible first | refine t_seq fun K => ?_ | refine t_block ?_ | refine t_scope ?_ | refine t_label ?_ | refine t_skip ?_ | refine t_exit ?_ | refine t_ret ?_ | refine t_k ?_ | refine t_gF ?_ | exact kp_nil | exact Kp.refl _ | exact kp_to | refine kp_cons ?_ | refine kp_arr ?_ | refine kp_app ?_ | refine t_p ?_ | refine t_br (fun hc => ?_) fun hc => ?_)
         | ((with_reducible first | refine t_kE (t_openE ?_) | refine t_kD (t_openD ?_) | refine t_kE ?_ | refine t_kD ?_ | refine t_gS ?_ | refine t_kL ?_ | refine t_kLF ?_ ?_ | refine t_region fun K => ?_ | refine t_cond fun A B => ?_ | refine t_draw (by kernel_rfl) fun K => ?_); (try (first | refine t_hideE fun KL => ?_ | refine t_hideD fun KL => ?_)); simp only [go_sem, geff, kp15, updL_cons, updL_nil, g6, g7, Int.toNat_natCast])
         | ((with_reducible refine kp_skip ?_ ?_); rfl) | simp only [thenQ, blockQ, scopeQ, Nat.reduceEqDiff, reduceIte] | (with_reducible first | refine And.intro ?_ ?_ | intro vr))
        all_goals try (first | (with_reducible assumption) | (intros; (try simp only [Bool.and_eq_true, Bool.or_eq_true, Bool.or_eq_false_iff, Bool.not_eq_true', Bool.not_eq_false', decide_eq_true_eq, decide_eq_false_iff_not, beq_iff_eq, beq_eq_false_iff_ne, bne_iff_ne, bne_eq_false_iff_eq, ne_eq, inI64, List.length_append] at *) <;> omega) | (intros; (with_reducible first | refine impB_ofR ?_ | refine and_ofB ?_ ?_) <;> with_reducible first | assumption | (refine impB_ofR ?_; assumption)) | ((try simp only [Bool.and_eq_true] at vr); simp only [impB, vr, Bool.or_true, Bool.true_or, Bool.and_self, Bool.not_true, Bool.not_false, Bool.and_true]; done))
        · skip
          all_goals ((first | refine end_retE ?_ | refine end_normE ?_); simp only [fin, go_sem])
          exact LeA.of_eq (by rw [hO]; simp_all)
        · skip
          refine ⟨⟨l.length + 1, .inr ⟨rfl, by rw [hO]; simp_all⟩⟩, by first | (simp only; omega) | omega, ?_⟩
          simp only [updL_nil, updL_cons, delF_top, delF_upd, Nat.reduceEqDiff, reduceIte]
          refine Le.frameS (by first | rfl | (simp only [go_sem]; try rfl)) ?_
          repeat' (first | exact leF_top _ | exact (fun _ => LeR.refl _) | (with_reducible refine leF_sl ?_ ?_) | (refine leF_upd ?_ ?_))
          all_goals (first | exact LeR.top _ | exact LeR.refl _ | (refine LeR.of_eq ?_; (try simp only [go_sem]); try rfl) | ((try simp only [go_sem]); try rfl))
    | false =>
      have hs2 := h2
      rw [head_drop, ← Bool.and_assoc] at h2
      cases h1 : (l.getD i 0 == 32 || l.getD i 0 == 9 || l.getD i 0 == 10) with
      | true =>
        have h3 : (!(l.getD i 0 == 32) && !(l.getD i 0 == 9) && !(l.getD i 0 == 10)) = false := by rw [← Bool.not_or, ← Bool.not_or, h1]; rfl
        repeat' (first
         | (with_reducible first | refine t_seq fun K => ?_ | refine t_block ?_ | refine t_scope ?_ | refine t_label ?_ | refine t_skip ?_ | refine t_exit ?_ | refine t_ret ?_ | refine t_k ?_ | refine t_gF ?_ | exact kp_nil | exact Kp.refl _ | exact kp_to | refine kp_cons ?_ | refine kp_arr ?_ | refine kp_app ?_ | refine t_p ?_ | refine t_br (fun hc => ?_) fun hc => ?_)
         | ((with_reducible first | refine t_kE (t_openE ?_) | refine t_kD (t_openD ?_) | refine t_kE ?_ | refine t_kD ?_ | refine t_gS ?_ | refine t_kL ?_ | refine t_kLF ?_ ?_ | refine t_region fun K => ?_ | refine t_cond fun A B => ?_ | refine t_draw (by kernel_rfl) fun K => ?_); (try (first | refine t_hideE fun KL => ?_ | refine t_hideD fun KL => ?_)); simp only [go_sem, geff, kp15, updL_cons, updL_nil, g5, Int.toNat_natCast, bt47, btn32, btn9, btn10, h2, h3, e1, d1])
         | ((with_reducible refine kp_skip ?_ ?_); rfl) | simp only [thenQ, blockQ, scopeQ, Nat.reduceEqDiff, reduceIte] | (with_reducible first | refine And.intro ?_ ?_ | intro vr))
        all_goals try (first | (with_reducible assumption) | (intros; (try simp only [Bool.and_eq_true, Bool.or_eq_true, Bool.or_eq_false_iff, Bool.not_eq_true', Bool.not_eq_false', decide_eq_true_eq, decide_eq_false_iff_not, beq_iff_eq, beq_eq_false_iff_ne, bne_iff_ne, bne_eq_false_iff_eq, ne_eq, inI64, List.length_append] at *) <;> omega) | (intros; (with_reducible first | refine impB_ofR ?_ | refine and_ofB ?_ ?_) <;> with_reducible first | assumption | (refine impB_ofR ?_; assumption)) | ((try simp only [Bool.and_eq_true] at vr); simp only [impB, vr, Bool.or_true, Bool.true_or, Bool.and_self, Bool.not_true, Bool.not_false, Bool.and_true]; done))
        refine ⟨⟨i + 1, .inl ⟨by omega, by rw [hdr, blSt, if_pos h1] at hF; exact hF⟩⟩, by first | (simp only; omega) | omega, ?_⟩
        simp only [updL_nil, updL_cons, delF_top, delF_upd, Nat.reduceEqDiff, reduceIte]
        refine Le.frameS (by first | rfl | (simp only [go_sem]; try rfl)) ?_
        repeat' (first | exact leF_top _ | exact (fun _ => LeR.refl _) | (with_reducible refine leF_sl ?_ ?_) | (refine leF_upd ?_ ?_))
        all_goals (first | exact LeR.top _ | exact LeR.refl _ | (refine LeR.of_eq ?_; (try simp only [go_sem]); try rfl) | ((try simp only [go_sem]); try rfl))
      | false =>
        have h3 : (!(l.getD i 0 == 32) && !(l.getD i 0 == 9) && !(l.getD i 0 == 10)) = true := by rw [← Bool.not_or, ← Bool.not_or, h1]; rfl
        repeat' (first
         | (with_reducible first | refine t_seq fun K => ?_ | refine t_block ?_ | refine t_scope ?_ | refine t_label ?_ | refine t_skip ?_ | refine t_exit ?_ | refine t_ret ?_ | refine t_k ?_ | refine t_gF ?_ | exact kp_nil | exact Kp.refl _ | exact kp_to | refine kp_cons ?_ | refine kp_arr ?_ | refine kp_app ?_ | refine t_p ?_ | refine t_br (fun hc => ?_) fun hc => ?_)
         | ((with_reducible first | refine t_kE (t_openE ?_) | refine t_kD (t_openD ?_) | refine t_kE ?_ | refine t_kD ?_ | refine t_gS ?_ | refine t_kL ?_ | refine t_kLF ?_ ?_ | refine t_region fun K => ?_ | refine t_cond fun A B => ?_ | refine t_draw (by kernel_rfl) fun K => ?_); (try (first | refine t_hideE fun KL => ?_ | refine t_hideD fun KL => ?_)); simp only [go_sem, geff, kp15, updL_cons, updL_nil, g5, Int.toNat_natCast, bt47, btn32, btn9, btn10, h2, h3, e1, d1])
         | ((with_reducible refine kp_skip ?_ ?_); rfl) | simp only [thenQ, blockQ, scopeQ, Nat.reduceEqDiff, reduceIte] | (with_reducible first | refine And.intro ?_ ?_ | intro vr))
        all_goals try (first | (with_reducible assumption) | (intros; (try simp only [Bool.and_eq_true, Bool.or_eq_true, Bool.or_eq_false_iff, Bool.not_eq_true', Bool.not_eq_false', decide_eq_true_eq, decide_eq_false_iff_not, beq_iff_eq, beq_eq_false_iff_ne, bne_iff_ne, bne_eq_false_iff_eq, ne_eq, inI64, List.length_append] at *) <;> omega) | (intros; (with_reducible first | refine impB_ofR ?_ | refine and_ofB ?_ ?_) <;> with_reducible first | assumption | (refine impB_ofR ?_; assumption)) | ((try simp only [Bool.and_eq_true] at vr); simp only [impB, vr, Bool.or_true, Bool.true_or, Bool.and_self, Bool.not_true, Bool.not_false, Bool.and_true]; done))
        all_goals ((first | refine end_retE ?_ | refine end_normE ?_); simp only [fin, go_sem])
        rw [hdr, blSt, if_neg (by rw [h1]; simp), if_neg (by rw [hs2]; simp)] at hF
        exact LeA.of_eq (by rw [hO, ← hF]; rfl)
  · have g5 : decide ((i : Int) < (l.length : Int)) = false := decide_eq_false (by omega)
    have hT : blOk e l = true := by
      rcases hi with ⟨h1, h2⟩ | h
      · rw [List.drop_eq_nil_of_le hge, blSt] at h2
        rw [hO, ← h2]; rfl
      · exact h.2
    repeat' (first
     | (with_reducible first | refine t_seq fun K => ?_ | refine t_block ?_ | refine t_scope ?_ | refine t_label ?_ | refine t_skip ?_ | refine t_exit ?_ | refine t_ret ?_ | refine t_k ?_ | refine t_gF ?_ | exact kp_nil | exact Kp.refl _ | exact kp_to | refine kp_cons ?_ | refine kp_arr ?_ | refine kp_app ?_ | refine t_p ?_ | refine t_br (fun hc => ?_) fun hc => ?_)
     | ((with_reducible first | refine t_kE (t_openE ?_) | refine t_kD (t_openD ?_) | refine t_kE ?_ | refine t_kD ?_ | refine t_gS ?_ | refine t_kL ?_ | refine t_kLF ?_ ?_ | refine t_region fun K => ?_ | refine t_cond fun A B => ?_ | refine t_draw (by kernel_rfl) fun K => ?_); (try (first | refine t_hideE fun KL => ?_ | refine t_hideD fun KL => ?_)); simp only [go_sem, geff, kp15, updL_cons, updL_nil, g5, Int.toNat_natCast])
     | ((with_reducible refine kp_skip ?_ ?_); rfl) | simp only [thenQ, blockQ, scopeQ, Nat.reduceEqDiff, reduceIte] | (with_reducible first | refine And.intro ?_ ?_ | intro vr))
    all_goals try (first | (with_reducible assumption) | (intros; (try simp only [Bool.and_eq_true, Bool.or_eq_true, Bool.or_eq_false_iff, Bool.not_eq_true', Bool.not_eq_false', decide_eq_true_eq, decide_eq_false_iff_not, beq_iff_eq, beq_eq_false_iff_ne, bne_iff_ne, bne_eq_false_iff_eq, ne_eq, inI64, List.length_append] at *) <;> omega) | (intros; (with_reducible first | refine impB_ofR ?_ | refine and_ofB ?_ ?_) <;> with_reducible first | assumption | (refine impB_ofR ?_; assumption)) | ((try simp only [Bool.and_eq_true] at vr); simp only [impB, vr, Bool.or_true, Bool.true_or, Bool.and_self, Bool.not_true, Bool.not_false, Bool.and_true]; done))
    all_goals ((first | refine end_retE ?_ | refine end_normE ?_); simp only [fin, go_sem])
    exact LeA.of_eq (by rw [hT])
noncomputable def con15 : PCon Tryd.prog where
  f := 15
  c := fun
    | [.lit (.string s), .lit (.bool e)] => some (s.size ≤ 9223372036854775806, .lit (.bool (blOk e (ul s))))
    | _ => none
  ok := by
    intro args p r hc hp
    split at hc
    · cases hc; exact (lblank_pc hp)
    · cases hc
  fk := fk15
theorem con15_f : con15.f = 15 := rfl
theorem con15_c {s : ByteArray} {e : Bool} : con15.c [.lit (.string s), .lit (.bool e)] = some (s.size ≤ 9223372036854775806, .lit (.bool (blOk e (ul s)))) := rfl
attribute [go_sem] con15_f con15_c
end Go.Proofs.YtkkamgblakhmiaaDoor

/- The tokens of a text stand in it. -/
namespace Go.Proofs.YtkkamgblakhmiaaDoor
open Go Go.Fw
set_option maxRecDepth 20000

theorem drop_tk {ts : List Tok} {i : Nat} (h : i < ts.length) : ts.drop i = ts.getD i ⟨0, [], 0, 0⟩ :: ts.drop (i + 1) := drop_tok h
noncomputable def E31 : Env := envJ (P := Tryd.prog) jk zer (fun _ => false) (fun _ => false) [con10, con11, con15] []
theorem E31_ok : EnvOk Tryd.prog E31 := envJOk zer_ok
set_option maxHeartbeats 4000000 in
theorem law5 {s : ByteArray} : PC Tryd.prog 5 [.lit (.string s)] (.lit (.bool true)) := by
  obtain ⟨l, rfl⟩ := bs_ex s
  cases h1 : (decide ((l.length : Int) > 400) || ((lexS l).2.2 != 0)) with
  | true =>
    refine pc_ofR E31_ok mixed (kp5) (rs := [.tmp 2]) Tryd.func5 rfl (by kernel_rfl) (by kernel_rfl) (Nat.le_of_ble_eq_true rfl) ?_
    simp only [initF_cons, initF_nil, Nat.reduceAdd]
    refine t_name fun KF => ?_
    unfold E31
    repeat' (first
     | (with_reducible first | refine t_seq fun K => ?_ | refine t_block ?_ | refine t_scope ?_ | refine t_label ?_ | refine t_skip ?_ | refine t_exit ?_ | refine t_ret ?_ | refine t_k ?_ | refine t_gF ?_ | exact kp_nil | exact Kp.refl _ | exact kp_to | refine kp_cons ?_ | refine kp_arr ?_ | refine kp_app ?_ | refine t_p ?_ | refine t_br (fun hc => ?_) fun hc => ?_)
     | ((with_reducible first | refine t_kE (t_openE ?_) | refine t_kD (t_openD ?_) | refine t_kE ?_ | refine t_kD ?_ | refine t_gS ?_ | refine t_kL ?_ | refine t_kLF ?_ ?_ | refine t_region fun K => ?_ | refine t_cond fun A B => ?_ | refine t_draw (by kernel_rfl) fun K => ?_); (try (first | refine t_hideE fun KL => ?_ | refine t_hideD fun KL => ?_)); simp only [go_sem, geff, kp5, lexV, h1])
     | ((with_reducible refine kp_skip ?_ ?_); rfl) | simp only [thenQ, blockQ, scopeQ, Nat.reduceEqDiff, reduceIte] | (with_reducible first | refine And.intro ?_ ?_ | intro vr))
    all_goals try (first | (with_reducible assumption) | (intros; (try simp only [Bool.and_eq_true, Bool.or_eq_true, Bool.or_eq_false_iff, Bool.not_eq_true', Bool.not_eq_false', decide_eq_true_eq, decide_eq_false_iff_not, beq_iff_eq, beq_eq_false_iff_ne, bne_iff_ne, bne_eq_false_iff_eq, ne_eq, inI64, List.length_append] at *) <;> omega) | (intros; (with_reducible first | refine impB_ofR ?_ | refine and_ofB ?_ ?_) <;> with_reducible first | assumption | (refine impB_ofR ?_; assumption)) | ((try simp only [Bool.and_eq_true] at vr); simp only [impB, vr, Bool.or_true, Bool.true_or, Bool.and_self, Bool.not_true, Bool.not_false, Bool.and_true]; done))
    all_goals ((first | refine end_retE ?_ | refine end_normE ?_); simp only [fin, go_sem])
    exact LeA.refl _
  | false =>
    have h1' := h1
    simp only [Bool.or_eq_false_iff, decide_eq_false_iff_not, bne_eq_false_iff_eq] at h1'
    generalize hq : lexS l = q at h1 h1'
    obtain ⟨ts, a, e⟩ := q
    simp only at h1 h1'
    obtain ⟨h400, rfl⟩ := h1'
    obtain ⟨rfl, hT, _⟩ := lexS_tk hq
    have hlen := lexS_len l
    rw [hq] at hlen
    simp only at hlen
    refine pc_ofR E31_ok mixed (kp5) (rs := [.tmp 2]) Tryd.func5 rfl (by kernel_rfl) (by kernel_rfl) (Nat.le_of_ble_eq_true rfl) ?_
    simp only [initF_cons, initF_nil, Nat.reduceAdd]
    refine t_name fun KF => ?_
    unfold E31
    repeat' (first
     | (with_reducible first | refine t_seq fun K => ?_ | refine t_block ?_ | refine t_scope ?_ | refine t_label ?_ | refine t_skip ?_ | refine t_exit ?_ | refine t_ret ?_ | refine t_k ?_ | refine t_gF ?_ | exact kp_nil | exact Kp.refl _ | exact kp_to | refine kp_cons ?_ | refine kp_arr ?_ | refine kp_app ?_ | refine t_p ?_ | refine t_br (fun hc => ?_) fun hc => ?_)
     | ((with_reducible first | refine t_kE (t_openE ?_) | refine t_kD (t_openD ?_) | refine t_kE ?_ | refine t_kD ?_ | refine t_gS ?_ | refine t_kL ?_ | refine t_kLF ?_ ?_ | refine t_region fun K => ?_ | refine t_cond fun A B => ?_ | refine t_draw (by kernel_rfl) fun K => ?_); (try (first | refine t_hideE fun KL => ?_ | refine t_hideD fun KL => ?_)); simp only [go_sem, geff, kp5, lexV, hq, h1])
     | ((with_reducible refine kp_skip ?_ ?_); rfl) | simp only [thenQ, blockQ, scopeQ, Nat.reduceEqDiff, reduceIte] | (with_reducible first | refine And.intro ?_ ?_ | intro vr))
    all_goals try (first | (with_reducible assumption) | (intros; (try simp only [Bool.and_eq_true, Bool.or_eq_true, Bool.or_eq_false_iff, Bool.not_eq_true', Bool.not_eq_false', decide_eq_true_eq, decide_eq_false_iff_not, beq_iff_eq, beq_eq_false_iff_ne, bne_iff_ne, bne_eq_false_iff_eq, ne_eq, inI64, List.length_append] at *) <;> omega) | (intros; (with_reducible first | refine impB_ofR ?_ | refine and_ofB ?_ ?_) <;> with_reducible first | assumption | (refine impB_ofR ?_; assumption)) | ((try simp only [Bool.and_eq_true] at vr); simp only [impB, vr, Bool.or_true, Bool.true_or, Bool.and_self, Bool.not_true, Bool.not_false, Bool.and_true]; done))
    refine t_loopF (ι := { p : Nat × Nat × Nat // p.1 ≤ ts.length ∧ p.2.1 ≤ l.length ∧ p.2.2 ≤ p.2.1 + 1 ∧ Tk l p.2.1 p.2.2 (ts.drop p.1) }) (fun i => [(8, .lit (.int .i64 i.1.1)), (6, .lit (.int .i64 i.1.2.1)), (7, .lit (.int .i64 i.1.2.2))]) (fun i => []) (fun i => ts.length - i.1.1) ⟨(0, 0, 1), by simp only; omega, by simp only; omega, by simp only; omega, by simpa using hT⟩ ?_ ?_
    · simp only [updL_nil, updL_cons, delF_top, delF_upd, Nat.reduceEqDiff, reduceIte]
      refine Le.frameS (by first | rfl | (simp only [go_sem]; try rfl)) ?_
      repeat' (first | exact leF_top _ | exact (fun _ => LeR.refl _) | (with_reducible refine leF_sl ?_ ?_) | (refine leF_upd ?_ ?_))
      all_goals (first | exact LeR.top _ | exact LeR.refl _ | (refine LeR.of_eq ?_; (try simp only [go_sem]); try rfl) | ((try simp only [go_sem]); try rfl))
    rintro ⟨⟨i, fr, ln⟩, hi, hf, hln, hK⟩ K0
    simp only at hi hf hln hK
    rcases Nat.lt_or_ge i ts.length with hlt | hge
    · have g5 : decide ((i : Int) < (ts.length : Int)) = true := decide_eq_true (by omega)
      rw [drop_tk hlt] at hK
      generalize hx : ts.getD i ⟨0, [], 0, 0⟩ = x at *
      obtain ⟨k1, k2, k3, k4, k5, k6⟩ := hK
      have hfl := firstS_len (l.drop (fr + blk false (l.drop fr)))
      have hfp := firstS_pre (l.drop (fr + blk false (l.drop fr)))
      rw [k3] at hfl hfp
      simp only [List.length_drop] at hfl hfp
      have hw := hfl.2 k2
      have hbo := blOk_take (d := l.drop fr) (e := false) (.inr (by simp; omega))
      have hnl := nls_le ((l.drop fr).take (blk false (l.drop fr)))
      have hnl2 : ((l.drop fr).take (blk false (l.drop fr))).length ≤ blk false (l.drop fr) := by simp; omega
      generalize hk : blk false (l.drop fr) = k at *
      obtain ⟨xk, xt, xl, xa⟩ := x
      simp only at k2 k3 k4 k5 k6 hfl hfp hw
      subst k4 k5
      have a1 : decide (((fr + k : Nat) : Int) < (fr : Int)) = false := decide_eq_false (by omega)
      have a2 : (xt == []) = false := by rw [beq_eq_false_iff_ne]; intro e; rw [e] at hw; simp at hw
      have e1 : (((fr + k : Nat) : Int) + (xt.length : Int)) = ((fr + k + xt.length : Nat) : Int) := by omega
      have a3 : decide (((fr + k + xt.length : Nat) : Int) > (l.length : Int)) = false := decide_eq_false (by omega)
      have a4 : ((l.take (fr + k + xt.length)).drop (fr + k) == xt) = true := by
        rw [List.drop_take, show fr + k + xt.length - (fr + k) = xt.length by omega, ← hfp]; simp
      have a5 : blOk false ((l.take (fr + k)).drop fr) = true := by
        rw [List.drop_take, show fr + k - fr = k by omega]; exact hbo
      repeat' (first
       | (with_reducible first | refine t_seq fun K => ?_ | refine t_block ?_ | refine t_scope ?_ | refine t_label ?_ | refine t_skip ?_ | refine t_exit ?_ | refine t_ret ?_ | refine t_k ?_ | refine t_gF ?_ | exact kp_nil | exact Kp.refl _ | exact kp_to | refine kp_cons ?_ | refine kp_arr ?_ | refine kp_app ?_ | refine t_p ?_ | refine t_br (fun hc => ?_) fun hc => ?_)
       | ((with_reducible first | refine t_kE (t_openE ?_) | refine t_kD (t_openD ?_) | refine t_kE ?_ | refine t_kD ?_ | refine t_gS ?_ | refine t_kL ?_ | refine t_kLF ?_ ?_ | refine t_region fun K => ?_ | refine t_cond fun A B => ?_ | refine t_draw (by kernel_rfl) fun K => ?_); (try (first | refine t_hideE fun KL => ?_ | refine t_hideD fun KL => ?_)); simp only [go_sem, geff, kp5, updL_cons, updL_nil, g5, Int.toNat_natCast, hx, tokV, a1, a2, e1, a3, a4, a5])
       | ((with_reducible refine kp_skip ?_ ?_); rfl) | simp only [thenQ, blockQ, scopeQ, Nat.reduceEqDiff, reduceIte] | (with_reducible first | refine And.intro ?_ ?_ | intro vr))
      all_goals try (first | (with_reducible assumption) | (intros; (try simp only [Bool.and_eq_true, Bool.or_eq_true, Bool.or_eq_false_iff, Bool.not_eq_true', Bool.not_eq_false', decide_eq_true_eq, decide_eq_false_iff_not, beq_iff_eq, beq_eq_false_iff_ne, bne_iff_ne, bne_eq_false_iff_eq, ne_eq, inI64, List.length_append, List.length_take, List.length_drop] at *) <;> omega) | (intros; (with_reducible first | refine impB_ofR ?_ | refine and_ofB ?_ ?_) <;> with_reducible first | assumption | (refine impB_ofR ?_; assumption)) | ((try simp only [Bool.and_eq_true] at vr); simp only [impB, vr, Bool.or_true, Bool.true_or, Bool.and_self, Bool.not_true, Bool.not_false, Bool.and_true]; done))
      have hff : ln = ln + nls ((l.take fr).drop fr) := by
        have : (l.take fr).drop fr = [] := List.drop_eq_nil_of_le (by simp; omega)
        rw [this]; rfl
      have hbx : ∀ j, nls ((l.take j).drop fr) ≤ j := fun j => by
        have := nls_le ((l.take j).drop fr)
        simp at this; omega
      have hend : nls ((l.take (fr + k)).drop fr) = nls ((l.drop fr).take k) := by rw [List.drop_take, show fr + k - fr = k by omega]
      refine t_loopF (ι := { p : Nat × Nat // fr ≤ p.1 ∧ p.1 ≤ fr + k ∧ p.2 = ln + nls ((l.take p.1).drop fr) }) (fun i => [(10, .lit (.int .i64 i.1.1)), (7, .lit (.int .i64 i.1.2))]) (fun i => [.box 36 [.lit (.int .i64 xk), .lit (.string (bs xt)), .lit (.int .i64 (ln + nls ((l.drop fr).take k) : Nat)), .lit (.int .i64 (fr + k : Nat))]]) (fun i => l.length - i.1.1) ⟨(fr, ln), Nat.le_refl _, by simp only; omega, hff⟩ ?_ ?_
      · simp only [updL_nil, updL_cons, delF_top, delF_upd, Nat.reduceEqDiff, reduceIte]
        refine Le.frameS (by first | rfl | (simp only [go_sem]; try rfl)) ?_
        repeat' (first | exact leF_top _ | exact (fun _ => LeR.refl _) | (with_reducible refine leF_sl ?_ ?_) | (refine leF_upd ?_ ?_))
        all_goals (first | exact LeR.top _ | exact LeR.refl _ | (refine LeR.of_eq ?_; (try simp only [go_sem]); try rfl) | ((try simp only [go_sem]); try rfl))
      rintro ⟨⟨j, m⟩, hj1, hj2, hj3⟩ K1
      simp only at hj1 hj2 hj3
      have hbj := hbx j
      rcases Nat.lt_or_ge j (fr + k) with hlt2 | hge2
      · have g6 : decide ((j : Int) < ((fr + k : Nat) : Int)) = true := decide_eq_true (by omega)
        have hst := nls_step (l := l) hj1 (by omega)
        cases h5 : (l.getD j 0 == 10) with
        | true =>
          rw [h5, if_pos rfl] at hst
          repeat' (first
           | (with_reducible first | refine t_seq fun K => ?_ | refine t_block ?_ | refine t_scope ?_ | refine t_label ?_ | refine t_skip ?_ | refine t_exit ?_ | refine t_ret ?_ | refine t_k ?_ | refine t_gF ?_ | exact kp_nil | exact Kp.refl _ | exact kp_to | refine kp_cons ?_ | refine kp_arr ?_ | refine kp_app ?_ | refine t_p ?_ | refine t_br (fun hc => ?_) fun hc => ?_)
           | ((with_reducible first | refine t_kE (t_openE ?_) | refine t_kD (t_openD ?_) | refine t_kE ?_ | refine t_kD ?_ | refine t_gS ?_ | refine t_kL ?_ | refine t_kLF ?_ ?_ | refine t_region fun K => ?_ | refine t_cond fun A B => ?_ | refine t_draw (by kernel_rfl) fun K => ?_); (try (first | refine t_hideE fun KL => ?_ | refine t_hideD fun KL => ?_)); simp only [go_sem, geff, kp5, updL_cons, updL_nil, Int.toNat_natCast, bt10, h5, g6])
           | ((with_reducible refine kp_skip ?_ ?_); rfl) | simp only [thenQ, blockQ, scopeQ, Nat.reduceEqDiff, reduceIte] | (with_reducible first | refine And.intro ?_ ?_ | intro vr))
          all_goals try (first | (with_reducible assumption) | (intros; (try simp only [Bool.and_eq_true, Bool.or_eq_true, Bool.or_eq_false_iff, Bool.not_eq_true', Bool.not_eq_false', decide_eq_true_eq, decide_eq_false_iff_not, beq_iff_eq, beq_eq_false_iff_ne, bne_iff_ne, bne_eq_false_iff_eq, ne_eq, inI64, List.length_append] at *) <;> omega) | (intros; (with_reducible first | refine impB_ofR ?_ | refine and_ofB ?_ ?_) <;> with_reducible first | assumption | (refine impB_ofR ?_; assumption)) | ((try simp only [Bool.and_eq_true] at vr); simp only [impB, vr, Bool.or_true, Bool.true_or, Bool.and_self, Bool.not_true, Bool.not_false, Bool.and_true]; done))
          refine ⟨⟨(j + 1, m + 1), by simp only; omega, by simp only; omega, by simp only; omega⟩, by first | (simp only; omega) | omega, ?_⟩
          simp only [updL_nil, updL_cons, delF_top, delF_upd, Nat.reduceEqDiff, reduceIte]
          refine Le.frameS (by first | rfl | (simp only [go_sem]; try rfl)) ?_
          repeat' (first | exact leF_top _ | exact (fun _ => LeR.refl _) | (with_reducible refine leF_sl ?_ ?_) | (refine leF_upd ?_ ?_))
          all_goals (first | exact LeR.top _ | exact LeR.refl _ | (refine LeR.of_eq ?_; (try simp only [go_sem]); try rfl) | ((try simp only [go_sem]); try rfl))
        | false =>
          rw [h5, if_neg (by simp)] at hst
          repeat' (first
           | (with_reducible first | refine t_seq fun K => ?_ | refine t_block ?_ | refine t_scope ?_ | refine t_label ?_ | refine t_skip ?_ | refine t_exit ?_ | refine t_ret ?_ | refine t_k ?_ | refine t_gF ?_ | exact kp_nil | exact Kp.refl _ | exact kp_to | refine kp_cons ?_ | refine kp_arr ?_ | refine kp_app ?_ | refine t_p ?_ | refine t_br (fun hc => ?_) fun hc => ?_)
           | ((with_reducible first | refine t_kE (t_openE ?_) | refine t_kD (t_openD ?_) | refine t_kE ?_ | refine t_kD ?_ | refine t_gS ?_ | refine t_kL ?_ | refine t_kLF ?_ ?_ | refine t_region fun K => ?_ | refine t_cond fun A B => ?_ | refine t_draw (by kernel_rfl) fun K => ?_); (try (first | refine t_hideE fun KL => ?_ | refine t_hideD fun KL => ?_)); simp only [go_sem, geff, kp5, updL_cons, updL_nil, Int.toNat_natCast, bt10, h5, g6])
           | ((with_reducible refine kp_skip ?_ ?_); rfl) | simp only [thenQ, blockQ, scopeQ, Nat.reduceEqDiff, reduceIte] | (with_reducible first | refine And.intro ?_ ?_ | intro vr))
          all_goals try (first | (with_reducible assumption) | (intros; (try simp only [Bool.and_eq_true, Bool.or_eq_true, Bool.or_eq_false_iff, Bool.not_eq_true', Bool.not_eq_false', decide_eq_true_eq, decide_eq_false_iff_not, beq_iff_eq, beq_eq_false_iff_ne, bne_iff_ne, bne_eq_false_iff_eq, ne_eq, inI64, List.length_append] at *) <;> omega) | (intros; (with_reducible first | refine impB_ofR ?_ | refine and_ofB ?_ ?_) <;> with_reducible first | assumption | (refine impB_ofR ?_; assumption)) | ((try simp only [Bool.and_eq_true] at vr); simp only [impB, vr, Bool.or_true, Bool.true_or, Bool.and_self, Bool.not_true, Bool.not_false, Bool.and_true]; done))
          refine ⟨⟨(j + 1, m), by simp only; omega, by simp only; omega, by simp only; omega⟩, by first | (simp only; omega) | omega, ?_⟩
          simp only [updL_nil, updL_cons, delF_top, delF_upd, Nat.reduceEqDiff, reduceIte]
          refine Le.frameS (by first | rfl | (simp only [go_sem]; try rfl)) ?_
          repeat' (first | exact leF_top _ | exact (fun _ => LeR.refl _) | (with_reducible refine leF_sl ?_ ?_) | (refine leF_upd ?_ ?_))
          all_goals (first | exact LeR.top _ | exact LeR.refl _ | (refine LeR.of_eq ?_; (try simp only [go_sem]); try rfl) | ((try simp only [go_sem]); try rfl))
      · have g6 : decide ((j : Int) < ((fr + k : Nat) : Int)) = false := decide_eq_false (by omega)
        have hj : j = fr + k := by omega
        subst hj
        rw [hend] at hj3
        subst hj3
        have a6 : ((((ln + nls ((l.drop fr).take k) : Nat) : Int)) != ((ln + nls ((l.drop fr).take k) : Nat) : Int)) = false := by simp
        repeat' (first
         | (with_reducible first | refine t_seq fun K => ?_ | refine t_block ?_ | refine t_scope ?_ | refine t_label ?_ | refine t_skip ?_ | refine t_exit ?_ | refine t_ret ?_ | refine t_k ?_ | refine t_gF ?_ | exact kp_nil | exact Kp.refl _ | exact kp_to | refine kp_cons ?_ | refine kp_arr ?_ | refine kp_app ?_ | refine t_p ?_ | refine t_br (fun hc => ?_) fun hc => ?_)
         | ((with_reducible first | refine t_kE (t_openE ?_) | refine t_kD (t_openD ?_) | refine t_kE ?_ | refine t_kD ?_ | refine t_gS ?_ | refine t_kL ?_ | refine t_kLF ?_ ?_ | refine t_region fun K => ?_ | refine t_cond fun A B => ?_ | refine t_draw (by kernel_rfl) fun K => ?_); (try (first | refine t_hideE fun KL => ?_ | refine t_hideD fun KL => ?_)); simp only [go_sem, geff, kp5, updL_cons, updL_nil, Int.toNat_natCast, g6, a6, e1])
         | ((with_reducible refine kp_skip ?_ ?_); rfl) | simp only [thenQ, blockQ, scopeQ, Nat.reduceEqDiff, reduceIte] | (with_reducible first | refine And.intro ?_ ?_ | intro vr))
        all_goals try (first | (with_reducible assumption) | (intros; (try simp only [Bool.and_eq_true, Bool.or_eq_true, Bool.or_eq_false_iff, Bool.not_eq_true', Bool.not_eq_false', decide_eq_true_eq, decide_eq_false_iff_not, beq_iff_eq, beq_eq_false_iff_ne, bne_iff_ne, bne_eq_false_iff_eq, ne_eq, inI64, List.length_append, List.length_take, List.length_drop] at *) <;> omega) | (intros; (with_reducible first | refine impB_ofR ?_ | refine and_ofB ?_ ?_) <;> with_reducible first | assumption | (refine impB_ofR ?_; assumption)) | ((try simp only [Bool.and_eq_true] at vr); simp only [impB, vr, Bool.or_true, Bool.true_or, Bool.and_self, Bool.not_true, Bool.not_false, Bool.and_true]; done))
        refine ⟨⟨(i + 1, fr + k + xt.length, ln + nls ((l.drop fr).take k)), by simp only; omega, by simp only; omega, by simp only; omega, k6⟩, by first | (simp only; omega) | omega, ?_⟩
        simp only [updL_nil, updL_cons, delF_top, delF_upd, Nat.reduceEqDiff, reduceIte]
        refine le_backD (by first | rfl | (simp only [go_sem]; try rfl)) (by first | exact Nat.zero_le _ | simp) (by first | rfl | simp [lowO, low_lit, low_sl, low_ref, low_arr]) ?_ ?_
        · repeat' (first | exact low_top | (refine low_upd rfl ?_))
        repeat' (first | exact leF_top _ | exact (fun _ => LeR.refl _) | (with_reducible refine leF_sl ?_ ?_) | (refine leF_upd ?_ ?_))
        all_goals (first | exact LeR.top _ | exact LeR.refl _ | (refine LeR.of_eq ?_; (try simp only [go_sem]); try rfl) | ((try simp only [go_sem]); try rfl))
    · have g5 : decide ((i : Int) < (ts.length : Int)) = false := decide_eq_false (by omega)
      rw [List.drop_eq_nil_of_le hge] at hK
      have hK : fr + blk false (l.drop fr) = l.length := hK
      have hbo := blOk_take (d := l.drop fr) (e := true) (.inl rfl)
      rw [List.take_of_length_le (by simp; omega)] at hbo
      repeat' (first
       | (with_reducible first | refine t_seq fun K => ?_ | refine t_block ?_ | refine t_scope ?_ | refine t_label ?_ | refine t_skip ?_ | refine t_exit ?_ | refine t_ret ?_ | refine t_k ?_ | refine t_gF ?_ | exact kp_nil | exact Kp.refl _ | exact kp_to | refine kp_cons ?_ | refine kp_arr ?_ | refine kp_app ?_ | refine t_p ?_ | refine t_br (fun hc => ?_) fun hc => ?_)
       | ((with_reducible first | refine t_kE (t_openE ?_) | refine t_kD (t_openD ?_) | refine t_kE ?_ | refine t_kD ?_ | refine t_gS ?_ | refine t_kL ?_ | refine t_kLF ?_ ?_ | refine t_region fun K => ?_ | refine t_cond fun A B => ?_ | refine t_draw (by kernel_rfl) fun K => ?_); (try (first | refine t_hideE fun KL => ?_ | refine t_hideD fun KL => ?_)); simp only [go_sem, geff, kp5, updL_cons, updL_nil, g5, Int.toNat_natCast, List.take_length, hbo])
       | ((with_reducible refine kp_skip ?_ ?_); rfl) | simp only [thenQ, blockQ, scopeQ, Nat.reduceEqDiff, reduceIte] | (with_reducible first | refine And.intro ?_ ?_ | intro vr))
      all_goals try (first | (with_reducible assumption) | (intros; (try simp only [Bool.and_eq_true, Bool.or_eq_true, Bool.or_eq_false_iff, Bool.not_eq_true', Bool.not_eq_false', decide_eq_true_eq, decide_eq_false_iff_not, beq_iff_eq, beq_eq_false_iff_ne, bne_iff_ne, bne_eq_false_iff_eq, ne_eq, inI64, List.length_append, List.length_take, List.length_drop] at *) <;> omega) | (intros; (with_reducible first | refine impB_ofR ?_ | refine and_ofB ?_ ?_) <;> with_reducible first | assumption | (refine impB_ofR ?_; assumption)) | ((try simp only [Bool.and_eq_true] at vr); simp only [impB, vr, Bool.or_true, Bool.true_or, Bool.and_self, Bool.not_true, Bool.not_false, Bool.and_true]; done))
      all_goals ((first | refine end_retE ?_ | refine end_normE ?_); simp only [fin, go_sem])
      exact LeA.refl _
theorem law5_law : ∀ xs, ShL Tryd.prog Tryd.f5.params.toList xs → PC Tryd.prog 5 xs (.lit (.bool true))
  | [x], h => by
    obtain ⟨s, rfl, _⟩ := shv_str u9 h.1
    exact law5
  | [], h => h.elim
  | _ :: _ :: _, h => h.2.elim
end Go.Proofs.YtkkamgblakhmiaaDoor
