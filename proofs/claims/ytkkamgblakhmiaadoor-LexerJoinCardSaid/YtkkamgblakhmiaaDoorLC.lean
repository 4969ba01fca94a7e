/- Blanks and comments. -/
import Derived.Test.YtkkamgblakhmiaaDoorLB

set_option linter.all false

namespace Go.Proofs.YtkkamgblakhmiaaDoor
open Go Go.Fw
set_option maxRecDepth 20000

theorem bt_eq (l : List UInt8) (i : Nat) (k : UInt8) : (bt l i == (k.toNat : Int)) = (l.getD i 0 == k) := by
  unfold bt
  rw [Bool.eq_iff_iff]
  simp only [beq_iff_eq]
  constructor
  · intro h; apply UInt8.toNat_inj.1; omega
  · intro h; rw [h]
theorem bt32 (l : List UInt8) (i : Nat) : (bt l i == 32) = (l.getD i 0 == 32) := bt_eq l i 32
theorem bt9 (l : List UInt8) (i : Nat) : (bt l i == 9) = (l.getD i 0 == 9) := bt_eq l i 9
theorem bt10 (l : List UInt8) (i : Nat) : (bt l i == 10) = (l.getD i 0 == 10) := bt_eq l i 10
theorem bt47 (l : List UInt8) (i : Nat) : (bt l i == 47) = (l.getD i 0 == 47) := bt_eq l i 47
theorem btn10 (l : List UInt8) (i : Nat) : (bt l i != 10) = !(l.getD i 0 == 10) := by rw [← bt10]; rfl
theorem pre47 (c : UInt8) (r : List UInt8) : ([47, 47] : List UInt8).isPrefixOf (c :: r) = (c == 47 && r.head? == some 47) := by
  cases r with
  | nil => simp [List.isPrefixOf]
  | cons d r =>
    rw [Bool.eq_iff_iff]
    simp only [List.isPrefixOf, List.head?_cons, Bool.and_eq_true, beq_iff_eq, Option.some.injEq, and_true]
    exact ⟨fun h => ⟨h.1.symm, h.2.symm⟩, fun h => ⟨h.1.symm, h.2.symm⟩⟩
theorem idx_lo (r : List UInt8) : -1 ≤ Lib.indexByte r 10 := by
  induction r with
  | nil => simp [Lib.indexByte]
  | cons c r ih =>
    by_cases hc : c = 10
    · simp [Lib.indexByte, hc]
    · have e : Lib.indexByte (c :: r) 10 = if Lib.indexByte r 10 = -1 then -1 else Lib.indexByte r 10 + 1 := by simp [Lib.indexByte, hc]
      rw [e]; split <;> omega
theorem idx_cons (c : UInt8) (r : List UInt8) : Lib.indexByte (c :: r) 10 = if c = 10 then 0 else if Lib.indexByte r 10 < 0 then -1 else Lib.indexByte r 10 + 1 := by
  have h := idx_lo r
  by_cases hc : c = 10
  · simp [Lib.indexByte, hc]
  · have e : Lib.indexByte (c :: r) 10 = if Lib.indexByte r 10 = -1 then -1 else Lib.indexByte r 10 + 1 := by simp [Lib.indexByte, hc]
    rw [e, if_neg hc]
    split <;> split <;> omega
/-- A comment goes to the next line feed, or to the end. -/
theorem cmt (r : List UInt8) : (Lib.indexByte r 10 < 0 → blk true r = r.length) ∧ (0 ≤ Lib.indexByte r 10 → (Lib.indexByte r 10).toNat < r.length ∧ blk true r = (Lib.indexByte r 10).toNat + blk false (r.drop (Lib.indexByte r 10).toNat)) := by
  induction r with
  | nil => exact ⟨fun _ => rfl, fun h => absurd h (by decide)⟩
  | cons c r ih =>
    rw [idx_cons]
    by_cases hc : c = 10
    · rw [if_pos hc]
      refine ⟨fun h => absurd h (by decide), fun _ => ⟨by simp, ?_⟩⟩
      subst hc
      simp [blk]
    · rw [if_neg hc]
      have hn : (c != 10) = true := by simpa using hc
      by_cases hi : Lib.indexByte r 10 < 0
      · rw [if_pos hi]
        refine ⟨fun _ => ?_, fun h => absurd h (by decide)⟩
        simp only [blk, hn, ih.1 hi, List.length_cons]
      · rw [if_neg hi]
        have h2 := ih.2 (by omega)
        refine ⟨fun h => absurd h (by omega), fun _ => ?_⟩
        have e1 : (Lib.indexByte r 10 + 1).toNat = (Lib.indexByte r 10).toNat + 1 := by omega
        rw [e1]
        refine ⟨by simp; exact h2.1, ?_⟩
        simp only [blk, hn, h2.2, List.drop_succ_cons]
        omega
theorem blk_cmt {c : UInt8} {r : List UInt8} (h : (c == 47 && r.head? == some 47) = true) :
    (Lib.indexByte (c :: r) 10 < 0 → blk false (c :: r) = r.length + 1) ∧ (0 ≤ Lib.indexByte (c :: r) 10 → 0 < (Lib.indexByte (c :: r) 10).toNat ∧ (Lib.indexByte (c :: r) 10).toNat ≤ r.length ∧ blk false (c :: r) = (Lib.indexByte (c :: r) 10).toNat + blk false ((c :: r).drop (Lib.indexByte (c :: r) 10).toNat)) := by
  have h47 : c = 47 := by simp only [Bool.and_eq_true, beq_iff_eq] at h; exact h.1
  have e : Lib.indexByte (c :: r) 10 = if Lib.indexByte r 10 < 0 then -1 else Lib.indexByte r 10 + 1 := by
    rw [idx_cons, if_neg (by rw [h47]; decide)]
  have hb : blk false (c :: r) = blk true r + 1 := by
    simp only [blk]; rw [if_neg (by rw [h47]; decide), if_pos h]
  have hc := cmt r
  rw [e, hb]
  by_cases hi : Lib.indexByte r 10 < 0
  · rw [if_pos hi]
    exact ⟨fun _ => by rw [hc.1 hi], fun h => absurd h (by decide)⟩
  · rw [if_neg hi]
    have h2 := hc.2 (by omega)
    have e1 : (Lib.indexByte r 10 + 1).toNat = (Lib.indexByte r 10).toNat + 1 := by omega
    refine ⟨fun h => absurd h (by omega), fun _ => ?_⟩
    rw [e1, List.drop_succ_cons, h2.2]
    omega
theorem idx_ge (r : List UInt8) : -1 ≤ Lib.indexByte r 10 ∧ Lib.indexByte r 10 ≤ r.length := by
  have h := cmt r
  refine ⟨idx_lo r, ?_⟩
  rcases Int.lt_or_le (Lib.indexByte r 10) 0 with h1 | h1
  · omega
  · have := (h.2 h1).1; omega
noncomputable def E22 : Env := envJ (P := Tryd.prog) jk zer (fun _ => false) (fun _ => false) [con44, con45] []
theorem E22_ok : EnvOk Tryd.prog E22 := envJOk zer_ok
theorem uTen : Nat.toUInt8 10 = 10 := rfl
set_option maxHeartbeats 1000000 in
theorem blank_pc {s : ByteArray} (hs : s.size ≤ 9223372036854775806) : PC Tryd.prog 29 [.lit (.string s)] (.lit (.int .i64 (blk false (ul s)))) := by
  obtain ⟨l, rfl⟩ := bs_ex s
  simp only [ul_bs, bs_size] at *
  refine pc_ofR E22_ok mixed (kp29) (rs := [.tmp 2]) Tryd.func29 rfl (by kernel_rfl) (by kernel_rfl) (Nat.le_of_ble_eq_true rfl) ?_
  simp only [initF_cons, initF_nil, Nat.reduceAdd]
  refine t_name fun KF => ?_
  unfold E22
  repeat' (first
   | (with_reducible first | refine t_seq fun K => ?_ | refine t_block ?_ | refine t_scope ?_ | refine t_label ?_ | refine t_skip ?_ | refine t_exit ?_ | refine t_ret ?_ | refine t_k ?_ | refine t_gF ?_ | exact kp_nil | exact Kp.refl _ | exact kp_to | refine kp_cons ?_ | refine kp_arr ?_ | refine kp_app ?_ | refine t_p ?_ | refine t_br (fun hc => ?_) fun hc => ?_)
   | ((with_reducible first | refine t_kE (t_openE ?_) | refine t_kD (t_openD ?_) | refine t_kE ?_ | refine t_kD ?_ | refine t_gS ?_ | refine t_kL ?_ | refine t_kLF ?_ ?_ | refine t_region fun K => ?_ | refine t_cond fun A B => ?_ | refine t_draw (by kernel_rfl) fun K => ?_); (try (first | refine t_hideE fun KL => ?_ | refine t_hideD fun KL => ?_)); simp only [go_sem, geff, kp29])
   | ((with_reducible refine kp_skip ?_ ?_); rfl) | simp only [thenQ, blockQ, scopeQ, Nat.reduceEqDiff, reduceIte] | (with_reducible first | refine And.intro ?_ ?_ | intro vr))
  all_goals try (first | (with_reducible assumption) | (intros; (try simp only [Bool.and_eq_true, Bool.or_eq_true, Bool.or_eq_false_iff, Bool.not_eq_true', Bool.not_eq_false', decide_eq_true_eq, decide_eq_false_iff_not, beq_iff_eq, beq_eq_false_iff_ne, bne_iff_ne, bne_eq_false_iff_eq, ne_eq, inI64, List.length_append] at *) <;> omega) | (intros; (with_reducible first | refine impB_ofR ?_ | refine and_ofB ?_ ?_) <;> with_reducible first | assumption | (refine impB_ofR ?_; assumption)) | ((try simp only [Bool.and_eq_true] at vr); simp only [impB, vr, Bool.or_true, Bool.true_or, Bool.and_self, Bool.not_true, Bool.not_false, Bool.and_true]; done))
  refine t_loopF (ι := { i : Nat // i ≤ l.length ∧ i + blk false (l.drop i) = blk false l }) (fun i => [(3, .lit (.int .i64 i.1))]) (fun i => []) (fun i => l.length - i.1) ⟨0, by omega, by simp⟩ ?_ ?_
  · simp only [updL_nil, updL_cons, delF_top, delF_upd, Nat.reduceEqDiff, reduceIte]
    refine Le.frameS (by first | rfl | (simp only [go_sem]; try rfl)) ?_
    repeat' (first | exact leF_top _ | exact (fun _ => LeR.refl _) | (with_reducible refine leF_sl ?_ ?_) | (refine leF_upd ?_ ?_))
    all_goals (first | exact LeR.top _ | exact LeR.refl _ | (refine LeR.of_eq ?_; (try simp only [go_sem]); try rfl) | ((try simp only [go_sem]); try rfl))
  rintro ⟨i, hi, hF⟩ K0
  rcases Nat.lt_or_ge i l.length with hlt | hlt
  · have g5 : decide ((i : Int) < (l.length : Int)) = true := decide_eq_true (by omega)
    have hdr := drop_cons hlt
    have hx := idx_ge (l.drop i)
    have hp : ([47, 47] : List UInt8).isPrefixOf (l.drop i) = (l.getD i 0 == 47 && (l.drop (i + 1)).head? == some 47) := by rw [hdr, pre47]
    have hc1 := fun h => blk_cmt (c := l.getD i 0) (r := l.drop (i + 1)) h
    rw [← hdr] at hc1
    have hl : (l.drop i).length = l.length - i := by simp
    have hl1 : (l.drop (i + 1)).length = l.length - (i + 1) := by simp
    cases h1 : (l.getD i 0 == 32 || l.getD i 0 == 9 || l.getD i 0 == 10) with
    | true =>
      repeat' (first
       | (with_reducible first | refine t_seq fun K => ?_ | refine t_block ?_ | refine t_scope ?_ | refine t_label ?_ | refine t_skip ?_ | refine t_exit ?_ | refine t_ret ?_ | refine t_k ?_ | refine t_gF ?_ | exact kp_nil | exact Kp.refl _ | exact kp_to | refine kp_cons ?_ | refine kp_arr ?_ | refine kp_app ?_ | refine t_p ?_ | refine t_br (fun hc => ?_) fun hc => ?_)
       | ((with_reducible first | refine t_kE (t_openE ?_) | refine t_kD (t_openD ?_) | refine t_kE ?_ | refine t_kD ?_ | refine t_gS ?_ | refine t_kL ?_ | refine t_kLF ?_ ?_ | refine t_region fun K => ?_ | refine t_cond fun A B => ?_ | refine t_draw (by kernel_rfl) fun K => ?_); (try (first | refine t_hideE fun KL => ?_ | refine t_hideD fun KL => ?_)); simp only [go_sem, geff, kp29, updL_cons, updL_nil, g5, Int.toNat_natCast, bt32, bt9, bt10, h1])
       | ((with_reducible refine kp_skip ?_ ?_); rfl) | simp only [thenQ, blockQ, scopeQ, Nat.reduceEqDiff, reduceIte] | (with_reducible first | refine And.intro ?_ ?_ | intro vr))
      all_goals try (first | (with_reducible assumption) | (intros; (try simp only [Bool.and_eq_true, Bool.or_eq_true, Bool.or_eq_false_iff, Bool.not_eq_true', Bool.not_eq_false', decide_eq_true_eq, decide_eq_false_iff_not, beq_iff_eq, beq_eq_false_iff_ne, bne_iff_ne, bne_eq_false_iff_eq, ne_eq, inI64, List.length_append] at *) <;> omega) | (intros; (with_reducible first | refine impB_ofR ?_ | refine and_ofB ?_ ?_) <;> with_reducible first | assumption | (refine impB_ofR ?_; assumption)) | ((try simp only [Bool.and_eq_true] at vr); simp only [impB, vr, Bool.or_true, Bool.true_or, Bool.and_self, Bool.not_true, Bool.not_false, Bool.and_true]; done))
      refine ⟨⟨i + 1, by omega, by rw [hdr, blk, if_pos h1] at hF; omega⟩, by first | (simp only; omega) | omega, ?_⟩
      simp only [updL_nil, updL_cons, delF_top, delF_upd, Nat.reduceEqDiff, reduceIte]
      refine Le.frameS (by first | rfl | (simp only [go_sem]; try rfl)) ?_
      repeat' (first | exact leF_top _ | exact (fun _ => LeR.refl _) | (with_reducible refine leF_sl ?_ ?_) | (refine leF_upd ?_ ?_))
      all_goals (first | exact LeR.top _ | exact LeR.refl _ | (refine LeR.of_eq ?_; (try simp only [go_sem]); try rfl) | ((try simp only [go_sem]); try rfl))
    | false =>
      have hb : (l.getD i 0 == 47 && (l.drop (i + 1)).head? == some 47) = false → blk false (l.drop i) = 0 := fun h => by
        rw [hdr, blk, if_neg (by rw [h1]; simp), if_neg (by rw [h]; simp)]
      repeat' (first
       | (with_reducible first | refine t_seq fun K => ?_ | refine t_block ?_ | refine t_scope ?_ | refine t_label ?_ | refine t_skip ?_ | refine t_exit ?_ | refine t_ret ?_ | refine t_k ?_ | refine t_gF ?_ | exact kp_nil | exact Kp.refl _ | exact kp_to | refine kp_cons ?_ | refine kp_arr ?_ | refine kp_app ?_ | refine t_p ?_ | refine t_br (fun hc => ?_) fun hc => ?_)
       | ((with_reducible first | refine t_kE (t_openE ?_) | refine t_kD (t_openD ?_) | refine t_kE ?_ | refine t_kD ?_ | refine t_gS ?_ | refine t_kL ?_ | refine t_kLF ?_ ?_ | refine t_region fun K => ?_ | refine t_cond fun A B => ?_ | refine t_draw (by kernel_rfl) fun K => ?_); (try (first | refine t_hideE fun KL => ?_ | refine t_hideD fun KL => ?_)); simp only [go_sem, geff, kp29, updL_cons, updL_nil, g5, Int.toNat_natCast, bt32, bt9, bt10, h1, List.take_length, uTen])
       | ((with_reducible refine kp_skip ?_ ?_); rfl) | simp only [thenQ, blockQ, scopeQ, Nat.reduceEqDiff, reduceIte] | (with_reducible first | refine And.intro ?_ ?_ | intro vr))
      all_goals try (first | (with_reducible assumption) | (intros; (try simp only [Bool.and_eq_true, Bool.or_eq_true, Bool.or_eq_false_iff, Bool.not_eq_true', Bool.not_eq_false', decide_eq_true_eq, decide_eq_false_iff_not, beq_iff_eq, beq_eq_false_iff_ne, bne_iff_ne, bne_eq_false_iff_eq, ne_eq, inI64, List.length_append] at *) <;> omega) | (intros; (with_reducible first | refine impB_ofR ?_ | refine and_ofB ?_ ?_) <;> with_reducible first | assumption | (refine impB_ofR ?_; assumption)) | ((try simp only [Bool.and_eq_true] at vr); simp only [impB, vr, Bool.or_true, Bool.true_or, Bool.and_self, Bool.not_true, Bool.not_false, Bool.and_true]; done))
      · have h2 := (hc1 (by rw [← hp]; assumption)).1 (by simpa using hc)
        all_goals ((first | refine end_retE ?_ | refine end_normE ?_); simp only [fin, go_sem])
        exact LeA.of_eq (by congr 3 <;> omega)
      · rename_i hq
        have h3 : 0 ≤ Lib.indexByte (l.drop i) 10 := by simpa using hc
        have h2 := (hc1 (by rw [← hp]; assumption)).2 h3
        have e1 : (i : Int) + Lib.indexByte (l.drop i) 10 = ((i + (Lib.indexByte (l.drop i) 10).toNat : Nat) : Int) := by omega
        rw [e1]
        refine ⟨⟨i + (Lib.indexByte (l.drop i) 10).toNat, by omega, by rw [← hF, h2.2.2, List.drop_drop]; omega⟩, by first | (simp only; omega) | omega, ?_⟩
        simp only [updL_nil, updL_cons, delF_top, delF_upd, Nat.reduceEqDiff, reduceIte]
        refine Le.frameS (by first | rfl | (simp only [go_sem]; try rfl)) ?_
        repeat' (first | exact leF_top _ | exact (fun _ => LeR.refl _) | (with_reducible refine leF_sl ?_ ?_) | (refine leF_upd ?_ ?_))
        all_goals (first | exact LeR.top _ | exact LeR.refl _ | (refine LeR.of_eq ?_; (try simp only [go_sem]); try rfl) | ((try simp only [go_sem]); try rfl))
      · have h2 := hb (by rw [← hp]; assumption)
        all_goals ((first | refine end_retE ?_ | refine end_normE ?_); simp only [fin, go_sem])
        exact LeA.of_eq (by congr 3 <;> omega)
  · have g5 : decide ((i : Int) < (l.length : Int)) = false := decide_eq_false (by omega)
    have e : i = l.length := by omega
    subst e
    rw [List.drop_length, blk] at hF
    repeat' (first
     | (with_reducible first | refine t_seq fun K => ?_ | refine t_block ?_ | refine t_scope ?_ | refine t_label ?_ | refine t_skip ?_ | refine t_exit ?_ | refine t_ret ?_ | refine t_k ?_ | refine t_gF ?_ | exact kp_nil | exact Kp.refl _ | exact kp_to | refine kp_cons ?_ | refine kp_arr ?_ | refine kp_app ?_ | refine t_p ?_ | refine t_br (fun hc => ?_) fun hc => ?_)
     | ((with_reducible first | refine t_kE (t_openE ?_) | refine t_kD (t_openD ?_) | refine t_kE ?_ | refine t_kD ?_ | refine t_gS ?_ | refine t_kL ?_ | refine t_kLF ?_ ?_ | refine t_region fun K => ?_ | refine t_cond fun A B => ?_ | refine t_draw (by kernel_rfl) fun K => ?_); (try (first | refine t_hideE fun KL => ?_ | refine t_hideD fun KL => ?_)); simp only [go_sem, geff, kp29, updL_cons, updL_nil, g5, Int.toNat_natCast])
     | ((with_reducible refine kp_skip ?_ ?_); rfl) | simp only [thenQ, blockQ, scopeQ, Nat.reduceEqDiff, reduceIte] | (with_reducible first | refine And.intro ?_ ?_ | intro vr))
    all_goals try (first | (with_reducible assumption) | (intros; (try simp only [Bool.and_eq_true, Bool.or_eq_true, Bool.or_eq_false_iff, Bool.not_eq_true', Bool.not_eq_false', decide_eq_true_eq, decide_eq_false_iff_not, beq_iff_eq, beq_eq_false_iff_ne, bne_iff_ne, bne_eq_false_iff_eq, ne_eq, inI64, List.length_append] at *) <;> omega) | (intros; (with_reducible first | refine impB_ofR ?_ | refine and_ofB ?_ ?_) <;> with_reducible first | assumption | (refine impB_ofR ?_; assumption)) | ((try simp only [Bool.and_eq_true] at vr); simp only [impB, vr, Bool.or_true, Bool.true_or, Bool.and_self, Bool.not_true, Bool.not_false, Bool.and_true]; done))
    all_goals ((first | refine end_retE ?_ | refine end_normE ?_); simp only [fin, go_sem])
    exact LeA.of_eq (by congr 3 <;> omega)
noncomputable def con29 : PCon Tryd.prog where
  f := 29
  c := fun
    | [.lit (.string s)] => some (s.size ≤ 9223372036854775806, .lit (.int .i64 (blk false (ul s))))
    | _ => none
  ok := by
    intro args p r hc hp
    split at hc
    · cases hc; exact (blank_pc hp)
    · cases hc
  fk := fk29
theorem con29_f : con29.f = 29 := rfl
theorem con29_c {s : ByteArray} : con29.c [.lit (.string s)] = some (s.size ≤ 9223372036854775806, .lit (.int .i64 (blk false (ul s)))) := rfl
/-! ### The reference's -/
noncomputable def E23 : Env := envJ (P := Tryd.prog) jk zer (fun _ => false) (fun _ => false) [] []
theorem E23_ok : EnvOk Tryd.prog E23 := envJOk zer_ok
theorem head_drop (l : List UInt8) (i : Nat) : ((l.drop i).head? == some 47) = (decide (i < l.length) && l.getD i 0 == 47) := by
  rcases Nat.lt_or_ge i l.length with h | h
  · rw [drop_cons h, decide_eq_true h]; rfl
  · rw [List.drop_eq_nil_of_le h, decide_eq_false (by omega)]; rfl
set_option maxHeartbeats 2000000 in
theorem skip_pc {s : ByteArray} {a : Nat} (hs : s.size ≤ 9223372036854775806) (ha : a ≤ s.size) : PC Tryd.prog 32 [.lit (.string s), .lit (.int .i64 a)] (.lit (.int .i64 ((a + blk false ((ul s).drop a) : Nat)))) := by
  obtain ⟨l, rfl⟩ := bs_ex s
  simp only [ul_bs, bs_size] at *
  refine pc_ofR E23_ok mixed (kp32) (rs := [.tmp 4]) Tryd.func32 rfl (by kernel_rfl) (by kernel_rfl) (Nat.le_of_ble_eq_true rfl) ?_
  simp only [initF_cons, initF_nil, Nat.reduceAdd]
  refine t_name fun KF => ?_
  unfold E23
  repeat' (first
   | (with_reducible first | refine t_seq fun K => ?_ | refine t_block ?_ | refine t_scope ?_ | refine t_label ?_ | refine t_skip ?_ | refine t_exit ?_ | refine t_ret ?_ | refine t_k ?_ | refine t_gF ?_ | exact kp_nil | exact Kp.refl _ | exact kp_to | refine kp_cons ?_ | refine kp_arr ?_ | refine kp_app ?_ | refine t_p ?_ | refine t_br (fun hc => ?_) fun hc => ?_)
   | ((with_reducible first | refine t_kE (t_openE ?_) | refine t_kD (t_openD ?_) | refine t_kE ?_ | refine t_kD ?_ | refine t_gS ?_ | refine t_kL ?_ | refine t_kLF ?_ ?_ | refine t_region fun K => ?_ | refine t_cond fun A B => ?_ | refine t_draw (by kernel_rfl) fun K => ?_); (try (first | refine t_hideE fun KL => ?_ | refine t_hideD fun KL => ?_)); simp only [go_sem, geff, kp32])
   | ((with_reducible refine kp_skip ?_ ?_); rfl) | simp only [thenQ, blockQ, scopeQ, Nat.reduceEqDiff, reduceIte] | (with_reducible first | refine And.intro ?_ ?_ | intro vr))
  all_goals try (first | (with_reducible assumption) | (intros; (try simp only [Bool.and_eq_true, Bool.or_eq_true, Bool.or_eq_false_iff, Bool.not_eq_true', Bool.not_eq_false', decide_eq_true_eq, decide_eq_false_iff_not, beq_iff_eq, beq_eq_false_iff_ne, bne_iff_ne, bne_eq_false_iff_eq, ne_eq, inI64, List.length_append] at *) <;> omega) | (intros; (with_reducible first | refine impB_ofR ?_ | refine and_ofB ?_ ?_) <;> with_reducible first | assumption | (refine impB_ofR ?_; assumption)) | ((try simp only [Bool.and_eq_true] at vr); simp only [impB, vr, Bool.or_true, Bool.true_or, Bool.and_self, Bool.not_true, Bool.not_false, Bool.and_true]; done))
  refine t_loopF (ι := { i : Nat // i ≤ l.length ∧ i + blk false (l.drop i) = a + blk false (l.drop a) }) (fun i => [(1, .lit (.int .i64 i.1))]) (fun i => []) (fun i => l.length - i.1) ⟨a, by omega, rfl⟩ ?_ ?_
  · simp only [updL_nil, updL_cons, delF_top, delF_upd, Nat.reduceEqDiff, reduceIte]
    refine Le.frameS (by first | rfl | (simp only [go_sem]; try rfl)) ?_
    repeat' (first | exact leF_top _ | exact (fun _ => LeR.refl _) | (with_reducible refine leF_sl ?_ ?_) | (refine leF_upd ?_ ?_))
    all_goals (first | exact LeR.top _ | exact LeR.refl _ | (refine LeR.of_eq ?_; (try simp only [go_sem]); try rfl) | ((try simp only [go_sem]); try rfl))
  rintro ⟨i, hi, hF⟩ K0
  rcases Nat.lt_or_ge i l.length with hlt | hlt
  · have g5 : decide ((i : Int) < (l.length : Int)) = true := decide_eq_true (by omega)
    have hdr := drop_cons hlt
    cases h1 : (l.getD i 0 == 32 || l.getD i 0 == 9 || l.getD i 0 == 10) with
    | true =>
      repeat' (first
       | (with_reducible first | refine t_seq fun K => ?_ | refine t_block ?_ | refine t_scope ?_ | refine t_label ?_ | refine t_skip ?_ | refine t_exit ?_ | refine t_ret ?_ | refine t_k ?_ | refine t_gF ?_ | exact kp_nil | exact Kp.refl _ | exact kp_to | refine kp_cons ?_ | refine kp_arr ?_ | refine kp_app ?_ | refine t_p ?_ | refine t_br (fun hc => ?_) fun hc => ?_)
       | ((with_reducible first | refine t_kE (t_openE ?_) | refine t_kD (t_openD ?_) | refine t_kE ?_ | refine t_kD ?_ | refine t_gS ?_ | refine t_kL ?_ | refine t_kLF ?_ ?_ | refine t_region fun K => ?_ | refine t_cond fun A B => ?_ | refine t_draw (by kernel_rfl) fun K => ?_); (try (first | refine t_hideE fun KL => ?_ | refine t_hideD fun KL => ?_)); simp only [go_sem, geff, kp32, updL_cons, updL_nil, g5, Int.toNat_natCast, bt32, bt9, bt10, h1])
       | ((with_reducible refine kp_skip ?_ ?_); rfl) | simp only [thenQ, blockQ, scopeQ, Nat.reduceEqDiff, reduceIte] | (with_reducible first | refine And.intro ?_ ?_ | intro vr))
      all_goals try (first | (with_reducible assumption) | (intros; (try simp only [Bool.and_eq_true, Bool.or_eq_true, Bool.or_eq_false_iff, Bool.not_eq_true', Bool.not_eq_false', decide_eq_true_eq, decide_eq_false_iff_not, beq_iff_eq, beq_eq_false_iff_ne, bne_iff_ne, bne_eq_false_iff_eq, ne_eq, inI64, List.length_append] at *) <;> omega) | (intros; (with_reducible first | refine impB_ofR ?_ | refine and_ofB ?_ ?_) <;> with_reducible first | assumption | (refine impB_ofR ?_; assumption)) | ((try simp only [Bool.and_eq_true] at vr); simp only [impB, vr, Bool.or_true, Bool.true_or, Bool.and_self, Bool.not_true, Bool.not_false, Bool.and_true]; done))
      refine ⟨⟨i + 1, by omega, by rw [hdr, blk, if_pos h1] at hF; omega⟩, by first | (simp only; omega) | omega, ?_⟩
      simp only [updL_nil, updL_cons, delF_top, delF_upd, Nat.reduceEqDiff, reduceIte]
      refine Le.frameS (by first | rfl | (simp only [go_sem]; try rfl)) ?_
      repeat' (first | exact leF_top _ | exact (fun _ => LeR.refl _) | (with_reducible refine leF_sl ?_ ?_) | (refine leF_upd ?_ ?_))
      all_goals (first | exact LeR.top _ | exact LeR.refl _ | (refine LeR.of_eq ?_; (try simp only [go_sem]); try rfl) | ((try simp only [go_sem]); try rfl))
    | false =>
      have e1 : ((i : Int) + 1).toNat = i + 1 := by omega
      have d1 : decide ((i : Int) + 1 < (l.length : Int)) = decide (i + 1 < l.length) := by rw [decide_eq_decide]; omega
      cases h2 : (l.getD i 0 == 47 && (l.drop (i + 1)).head? == some 47) with
      | true =>
        have hb : blk false (l.drop i) = 1 + blk true (l.drop (i + 1)) := by rw [hdr, blk, if_neg (by rw [h1]; simp), if_pos h2]; omega
        rw [head_drop] at h2
        simp only [Bool.and_eq_true] at h2
        have h47 := h2.1
        have hl1 := h2.2.1
        have h48 := h2.2.2
        have hbt : blk true (l.drop i) = 1 + blk true (l.drop (i + 1)) := by
          rw [hdr, blk]
          have : (l.getD i 0 != 10) = true := by rw [beq_iff_eq.1 h47]; decide
          rw [this]; omega
        repeat' (first
         | (with_reducible first | refine t_seq fun K => ?_ | refine t_block ?_ | refine t_scope ?_ | refine t_label ?_ | refine t_skip ?_ | refine t_exit ?_ | refine t_ret ?_ | refine t_k ?_ | refine t_gF ?_ | exact kp_nil | exact Kp.refl _ | exact kp_to | refine kp_cons ?_ | refine kp_arr ?_ | refine kp_app ?_ | refine t_p ?_ | refine t_br (fun hc => ?_) fun hc => ?_)
         | ((with_reducible first | refine t_kE (t_openE ?_) | refine t_kD (t_openD ?_) | refine t_kE ?_ | refine t_kD ?_ | refine t_gS ?_ | refine t_kL ?_ | refine t_kLF ?_ ?_ | refine t_region fun K => ?_ | refine t_cond fun A B => ?_ | refine t_draw (by kernel_rfl) fun K => ?_); (try (first | refine t_hideE fun KL => ?_ | refine t_hideD fun KL => ?_)); simp only [go_sem, geff, kp32, updL_cons, updL_nil, g5, Int.toNat_natCast, bt32, bt9, bt10, bt47, h1, h47, hl1, h48, e1, d1])
         | ((with_reducible refine kp_skip ?_ ?_); rfl) | simp only [thenQ, blockQ, scopeQ, Nat.reduceEqDiff, reduceIte] | (with_reducible first | refine And.intro ?_ ?_ | intro vr))
        all_goals try (first | (with_reducible assumption) | (intros; (try simp only [Bool.and_eq_true, Bool.or_eq_true, Bool.or_eq_false_iff, Bool.not_eq_true', Bool.not_eq_false', decide_eq_true_eq, decide_eq_false_iff_not, beq_iff_eq, beq_eq_false_iff_ne, bne_iff_ne, bne_eq_false_iff_eq, ne_eq, inI64, List.length_append] at *) <;> omega) | (intros; (with_reducible first | refine impB_ofR ?_ | refine and_ofB ?_ ?_) <;> with_reducible first | assumption | (refine impB_ofR ?_; assumption)) | ((try simp only [Bool.and_eq_true] at vr); simp only [impB, vr, Bool.or_true, Bool.true_or, Bool.and_self, Bool.not_true, Bool.not_false, Bool.and_true]; done))
        refine t_loopF (ι := { j : Nat // i ≤ j ∧ j ≤ l.length ∧ j + blk true (l.drop j) = a + blk false (l.drop a) }) (fun i => [(1, .lit (.int .i64 i.1)), (10, .top), (29, .top)]) (fun i => []) (fun i => l.length - i.1) ⟨i, by omega, by omega, by omega⟩ ?_ ?_
        · simp only [updL_nil, updL_cons, delF_top, delF_upd, Nat.reduceEqDiff, reduceIte]
          refine Le.frameS (by first | rfl | (simp only [go_sem]; try rfl)) ?_
          repeat' (first | exact leF_top _ | exact (fun _ => LeR.refl _) | (with_reducible refine leF_sl ?_ ?_) | (refine leF_upd ?_ ?_))
          all_goals (first | exact LeR.top _ | exact LeR.refl _ | (refine LeR.of_eq ?_; (try simp only [go_sem]); try rfl) | ((try simp only [go_sem]); try rfl))
        rintro ⟨j, hij, hj, hG⟩ K1
        rcases Nat.lt_or_ge j l.length with hlt2 | hlt2
        · have g6 : decide ((j : Int) < (l.length : Int)) = true := decide_eq_true (by omega)
          have hdr2 := drop_cons hlt2
          cases h3 : (l.getD j 0 == 10) with
          | false =>
            repeat' (first
             | (with_reducible first | refine t_seq fun K => ?_ | refine t_block ?_ | refine t_scope ?_ | refine t_label ?_ | refine t_skip ?_ | refine t_exit ?_ | refine t_ret ?_ | refine t_k ?_ | refine t_gF ?_ | exact kp_nil | exact Kp.refl _ | exact kp_to | refine kp_cons ?_ | refine kp_arr ?_ | refine kp_app ?_ | refine t_p ?_ | refine t_br (fun hc => ?_) fun hc => ?_)
             | ((with_reducible first | refine t_kE (t_openE ?_) | refine t_kD (t_openD ?_) | refine t_kE ?_ | refine t_kD ?_ | refine t_gS ?_ | refine t_kL ?_ | refine t_kLF ?_ ?_ | refine t_region fun K => ?_ | refine t_cond fun A B => ?_ | refine t_draw (by kernel_rfl) fun K => ?_); (try (first | refine t_hideE fun KL => ?_ | refine t_hideD fun KL => ?_)); simp only [go_sem, geff, kp32, updL_cons, updL_nil, g6, Int.toNat_natCast, btn10, h3])
             | ((with_reducible refine kp_skip ?_ ?_); rfl) | simp only [thenQ, blockQ, scopeQ, Nat.reduceEqDiff, reduceIte] | (with_reducible first | refine And.intro ?_ ?_ | intro vr))
            all_goals try (first | (with_reducible assumption) | (intros; (try simp only [Bool.and_eq_true, Bool.or_eq_true, Bool.or_eq_false_iff, Bool.not_eq_true', Bool.not_eq_false', decide_eq_true_eq, decide_eq_false_iff_not, beq_iff_eq, beq_eq_false_iff_ne, bne_iff_ne, bne_eq_false_iff_eq, ne_eq, inI64, List.length_append] at *) <;> omega) | (intros; (with_reducible first | refine impB_ofR ?_ | refine and_ofB ?_ ?_) <;> with_reducible first | assumption | (refine impB_ofR ?_; assumption)) | ((try simp only [Bool.and_eq_true] at vr); simp only [impB, vr, Bool.or_true, Bool.true_or, Bool.and_self, Bool.not_true, Bool.not_false, Bool.and_true]; done))
            refine ⟨⟨j + 1, by omega, by omega, by rw [hdr2, blk, show (l.getD j 0 != 10) = true by simp only [bne, h3]; rfl] at hG; omega⟩, by first | (simp only; omega) | omega, ?_⟩
            simp only [updL_nil, updL_cons, delF_top, delF_upd, Nat.reduceEqDiff, reduceIte]
            refine Le.frameS (by first | rfl | (simp only [go_sem]; try rfl)) ?_
            repeat' (first | exact leF_top _ | exact (fun _ => LeR.refl _) | (with_reducible refine leF_sl ?_ ?_) | (refine leF_upd ?_ ?_))
            all_goals (first | exact LeR.top _ | exact LeR.refl _ | (refine LeR.of_eq ?_; (try simp only [go_sem]); try rfl) | ((try simp only [go_sem]); try rfl))
          | true =>
            have hji : i < j := by
              rcases Nat.lt_or_eq_of_le hij with h | h
              · exact h
              · subst h; rw [beq_iff_eq.1 h47] at h3; cases h3
            repeat' (first
             | (with_reducible first | refine t_seq fun K => ?_ | refine t_block ?_ | refine t_scope ?_ | refine t_label ?_ | refine t_skip ?_ | refine t_exit ?_ | refine t_ret ?_ | refine t_k ?_ | refine t_gF ?_ | exact kp_nil | exact Kp.refl _ | exact kp_to | refine kp_cons ?_ | refine kp_arr ?_ | refine kp_app ?_ | refine t_p ?_ | refine t_br (fun hc => ?_) fun hc => ?_)
             | ((with_reducible first | refine t_kE (t_openE ?_) | refine t_kD (t_openD ?_) | refine t_kE ?_ | refine t_kD ?_ | refine t_gS ?_ | refine t_kL ?_ | refine t_kLF ?_ ?_ | refine t_region fun K => ?_ | refine t_cond fun A B => ?_ | refine t_draw (by kernel_rfl) fun K => ?_); (try (first | refine t_hideE fun KL => ?_ | refine t_hideD fun KL => ?_)); simp only [go_sem, geff, kp32, updL_cons, updL_nil, g6, Int.toNat_natCast, btn10, h3])
             | ((with_reducible refine kp_skip ?_ ?_); rfl) | simp only [thenQ, blockQ, scopeQ, Nat.reduceEqDiff, reduceIte] | (with_reducible first | refine And.intro ?_ ?_ | intro vr))
            all_goals try (first | (with_reducible assumption) | (intros; (try simp only [Bool.and_eq_true, Bool.or_eq_true, Bool.or_eq_false_iff, Bool.not_eq_true', Bool.not_eq_false', decide_eq_true_eq, decide_eq_false_iff_not, beq_iff_eq, beq_eq_false_iff_ne, bne_iff_ne, bne_eq_false_iff_eq, ne_eq, inI64, List.length_append] at *) <;> omega) | (intros; (with_reducible first | refine impB_ofR ?_ | refine and_ofB ?_ ?_) <;> with_reducible first | assumption | (refine impB_ofR ?_; assumption)) | ((try simp only [Bool.and_eq_true] at vr); simp only [impB, vr, Bool.or_true, Bool.true_or, Bool.and_self, Bool.not_true, Bool.not_false, Bool.and_true]; done))
            refine ⟨⟨j, by omega, by rw [← hG, hdr2, blk, blk, show (l.getD j 0 != 10) = false by simp only [bne, h3]; rfl, if_pos (by rw [h3]; simp)]⟩, by first | (simp only; omega) | omega, ?_⟩
            simp only [updL_nil, updL_cons, delF_top, delF_upd, Nat.reduceEqDiff, reduceIte]
            refine Le.frameS (by first | rfl | (simp only [go_sem]; try rfl)) ?_
            repeat' (first | exact leF_top _ | exact (fun _ => LeR.refl _) | (with_reducible refine leF_sl ?_ ?_) | (refine leF_upd ?_ ?_))
            all_goals (first | exact LeR.top _ | exact LeR.refl _ | (refine LeR.of_eq ?_; (try simp only [go_sem]); try rfl) | ((try simp only [go_sem]); try rfl))
        · have g6 : decide ((j : Int) < (l.length : Int)) = false := decide_eq_false (by omega)
          have e : j = l.length := by omega
          subst e
          repeat' (first
           | (with_reducible first | refine t_seq fun K => ?_ | refine t_block ?_ | refine t_scope ?_ | refine t_label ?_ | refine t_skip ?_ | refine t_exit ?_ | refine t_ret ?_ | refine t_k ?_ | refine t_gF ?_ | exact kp_nil | exact Kp.refl _ | exact kp_to | refine kp_cons ?_ | refine kp_arr ?_ | refine kp_app ?_ | refine t_p ?_ | refine t_br (fun hc => ?_) fun hc => ?_)
           | ((with_reducible first | refine t_kE (t_openE ?_) | refine t_kD (t_openD ?_) | refine t_kE ?_ | refine t_kD ?_ | refine t_gS ?_ | refine t_kL ?_ | refine t_kLF ?_ ?_ | refine t_region fun K => ?_ | refine t_cond fun A B => ?_ | refine t_draw (by kernel_rfl) fun K => ?_); (try (first | refine t_hideE fun KL => ?_ | refine t_hideD fun KL => ?_)); simp only [go_sem, geff, kp32, updL_cons, updL_nil, g6, Int.toNat_natCast])
           | ((with_reducible refine kp_skip ?_ ?_); rfl) | simp only [thenQ, blockQ, scopeQ, Nat.reduceEqDiff, reduceIte] | (with_reducible first | refine And.intro ?_ ?_ | intro vr))
          all_goals try (first | (with_reducible assumption) | (intros; (try simp only [Bool.and_eq_true, Bool.or_eq_true, Bool.or_eq_false_iff, Bool.not_eq_true', Bool.not_eq_false', decide_eq_true_eq, decide_eq_false_iff_not, beq_iff_eq, beq_eq_false_iff_ne, bne_iff_ne, bne_eq_false_iff_eq, ne_eq, inI64, List.length_append] at *) <;> omega) | (intros; (with_reducible first | refine impB_ofR ?_ | refine and_ofB ?_ ?_) <;> with_reducible first | assumption | (refine impB_ofR ?_; assumption)) | ((try simp only [Bool.and_eq_true] at vr); simp only [impB, vr, Bool.or_true, Bool.true_or, Bool.and_self, Bool.not_true, Bool.not_false, Bool.and_true]; done))
          refine ⟨⟨l.length, by omega, by rw [← hG, List.drop_length]; rfl⟩, by first | (simp only; omega) | omega, ?_⟩
          simp only [updL_nil, updL_cons, delF_top, delF_upd, Nat.reduceEqDiff, reduceIte]
          refine Le.frameS (by first | rfl | (simp only [go_sem]; try rfl)) ?_
          repeat' (first | exact leF_top _ | exact (fun _ => LeR.refl _) | (with_reducible refine leF_sl ?_ ?_) | (refine leF_upd ?_ ?_))
          all_goals (first | exact LeR.top _ | exact LeR.refl _ | (refine LeR.of_eq ?_; (try simp only [go_sem]); try rfl) | ((try simp only [go_sem]); try rfl))
      | false =>
        have hb : blk false (l.drop i) = 0 := by rw [hdr, blk, if_neg (by rw [h1]; simp), if_neg (by rw [h2]; simp)]
        rw [head_drop, ← Bool.and_assoc] at h2
        repeat' (first
         | (with_reducible first | refine t_seq fun K => ?_ | refine t_block ?_ | refine t_scope ?_ | refine t_label ?_ | refine t_skip ?_ | refine t_exit ?_ | refine t_ret ?_ | refine t_k ?_ | refine t_gF ?_ | exact kp_nil | exact Kp.refl _ | exact kp_to | refine kp_cons ?_ | refine kp_arr ?_ | refine kp_app ?_ | refine t_p ?_ | refine t_br (fun hc => ?_) fun hc => ?_)
         | ((with_reducible first | refine t_kE (t_openE ?_) | refine t_kD (t_openD ?_) | refine t_kE ?_ | refine t_kD ?_ | refine t_gS ?_ | refine t_kL ?_ | refine t_kLF ?_ ?_ | refine t_region fun K => ?_ | refine t_cond fun A B => ?_ | refine t_draw (by kernel_rfl) fun K => ?_); (try (first | refine t_hideE fun KL => ?_ | refine t_hideD fun KL => ?_)); simp only [go_sem, geff, kp32, updL_cons, updL_nil, g5, Int.toNat_natCast, bt32, bt9, bt10, bt47, h1, h2, e1, d1])
         | ((with_reducible refine kp_skip ?_ ?_); rfl) | simp only [thenQ, blockQ, scopeQ, Nat.reduceEqDiff, reduceIte] | (with_reducible first | refine And.intro ?_ ?_ | intro vr))
        all_goals try (first | (with_reducible assumption) | (intros; (try simp only [Bool.and_eq_true, Bool.or_eq_true, Bool.or_eq_false_iff, Bool.not_eq_true', Bool.not_eq_false', decide_eq_true_eq, decide_eq_false_iff_not, beq_iff_eq, beq_eq_false_iff_ne, bne_iff_ne, bne_eq_false_iff_eq, ne_eq, inI64, List.length_append] at *) <;> omega) | (intros; (with_reducible first | refine impB_ofR ?_ | refine and_ofB ?_ ?_) <;> with_reducible first | assumption | (refine impB_ofR ?_; assumption)) | ((try simp only [Bool.and_eq_true] at vr); simp only [impB, vr, Bool.or_true, Bool.true_or, Bool.and_self, Bool.not_true, Bool.not_false, Bool.and_true]; done))
        all_goals ((first | refine end_retE ?_ | refine end_normE ?_); simp only [fin, go_sem])
        exact LeA.of_eq (by congr 3 <;> omega)
  · have g5 : decide ((i : Int) < (l.length : Int)) = false := decide_eq_false (by omega)
    have e : i = l.length := by omega
    subst e
    rw [List.drop_length, blk] at hF
    repeat' (first
     | (with_reducible first | refine t_seq fun K => ?_ | refine t_block ?_ | refine t_scope ?_ | refine t_label ?_ | refine t_skip ?_ | refine t_exit ?_ | refine t_ret ?_ | refine t_k ?_ | refine t_gF ?_ | exact kp_nil | exact Kp.refl _ | exact kp_to | refine kp_cons ?_ | refine kp_arr ?_ | refine kp_app ?_ | refine t_p ?_ | refine t_br (fun hc => ?_) fun hc => ?_)
     | ((with_reducible first | refine t_kE (t_openE ?_) | refine t_kD (t_openD ?_) | refine t_kE ?_ | refine t_kD ?_ | refine t_gS ?_ | refine t_kL ?_ | refine t_kLF ?_ ?_ | refine t_region fun K => ?_ | refine t_cond fun A B => ?_ | refine t_draw (by kernel_rfl) fun K => ?_); (try (first | refine t_hideE fun KL => ?_ | refine t_hideD fun KL => ?_)); simp only [go_sem, geff, kp32, updL_cons, updL_nil, g5, Int.toNat_natCast])
     | ((with_reducible refine kp_skip ?_ ?_); rfl) | simp only [thenQ, blockQ, scopeQ, Nat.reduceEqDiff, reduceIte] | (with_reducible first | refine And.intro ?_ ?_ | intro vr))
    all_goals try (first | (with_reducible assumption) | (intros; (try simp only [Bool.and_eq_true, Bool.or_eq_true, Bool.or_eq_false_iff, Bool.not_eq_true', Bool.not_eq_false', decide_eq_true_eq, decide_eq_false_iff_not, beq_iff_eq, beq_eq_false_iff_ne, bne_iff_ne, bne_eq_false_iff_eq, ne_eq, inI64, List.length_append] at *) <;> omega) | (intros; (with_reducible first | refine impB_ofR ?_ | refine and_ofB ?_ ?_) <;> with_reducible first | assumption | (refine impB_ofR ?_; assumption)) | ((try simp only [Bool.and_eq_true] at vr); simp only [impB, vr, Bool.or_true, Bool.true_or, Bool.and_self, Bool.not_true, Bool.not_false, Bool.and_true]; done))
    all_goals ((first | refine end_retE ?_ | refine end_normE ?_); simp only [fin, go_sem])
    exact LeA.of_eq (by congr 3 <;> omega)
noncomputable def con32 : PCon Tryd.prog where
  f := 32
  c := fun
    | [.lit (.string s), .lit (.int .i64 a)] => some (s.size ≤ 9223372036854775806 ∧ 0 ≤ a ∧ a ≤ s.size, .lit (.int .i64 (a + (blk false ((ul s).drop a.toNat) : Nat))))
    | _ => none
  ok := by
    intro args p r hc hp
    split at hc
    · rename_i s a
      cases hc
      have h := skip_pc (s := s) (a := a.toNat) hp.1 (by omega)
      have e : ((a.toNat : Nat) : Int) = a := by omega
      rw [e] at h
      have e2 : ((a.toNat + blk false ((ul s).drop a.toNat) : Nat) : Int) = a + (blk false ((ul s).drop a.toNat) : Nat) := by omega
      rw [e2] at h
      exact h
    · cases hc
  fk := fk32
theorem con32_f : con32.f = 32 := rfl
theorem con32_c {s : ByteArray} {a : Int} : con32.c [.lit (.string s), .lit (.int .i64 a)] = some (s.size ≤ 9223372036854775806 ∧ 0 ≤ a ∧ a ≤ s.size, .lit (.int .i64 (a + (blk false ((ul s).drop a.toNat) : Nat)))) := rfl
attribute [go_sem] con29_f con29_c con32_f con32_c
end Go.Proofs.YtkkamgblakhmiaaDoor

/- The tokens of a text. -/
namespace Go.Proofs.YtkkamgblakhmiaaDoor
open Go Go.Fw
set_option maxRecDepth 20000

def lexV (r : List Tok × Int × Int) : AV := .tup [.sl false 4 (toks r.1), .lit (.int .i64 r.2.1), .lit (.int .i64 r.2.2)]
theorem lex_nil {a e : Int} {r : List Tok × Int × Int} (h : r = ([], a, e)) : LeA (.tup [.lit (.slice none 0 0), .lit (.int .i64 a), .lit (.int .i64 e)]) (lexV r) := by
  subst h; exact LeA.tup ⟨LeA.nil _ _, LeA.refl _, LeA.refl _, trivial⟩
theorem lex_sl {b : Bool} {l : List Tok} {a e : Int} {r : List Tok × Int × Int} (h : r = (l, a, e)) : LeA (.tup [.sl b 4 (toks l), .lit (.int .i64 a), .lit (.int .i64 e)]) (lexV r) := by
  subst h; exact LeA.tup ⟨LeA.full _ _ _, LeA.refl _, LeA.refl _, trivial⟩
/-! What is known of the first token. -/
theorem firstS_len (l : List UInt8) : (firstS l).2.length ≤ l.length ∧ ((firstS l).1 ≠ 0 → 0 < (firstS l).2.length) := by
  cases l with
  | nil => exact ⟨by simp [firstS], fun h => absurd rfl h⟩
  | cons c l =>
    rw [firstC rfl]
    have r1 := runN_le true (c :: l)
    have r2 := runN_le false (c :: l)
    split
    · rename_i h1
      have hp : 0 < runN true (c :: l) := by simp [runN, h1]
      split
      · exact ⟨by simp; omega, fun _ => by simp; omega⟩
      · split
        · exact ⟨by simp; omega, fun _ => by simp; omega⟩
        · exact ⟨by simp, fun h => absurd rfl h⟩
    · split
      · rename_i h1
        have hp : 0 < runN false (c :: l) := by simp [runN, h1]
        split
        · exact ⟨by simp; omega, fun _ => by simp; omega⟩
        · exact ⟨by simp, fun h => absurd rfl h⟩
      · cases h : symS (c :: l) with
        | none => exact ⟨by simp, fun h => absurd rfl h⟩
        | some x =>
          have hx := List.find?_some h
          have := (List.isPrefixOf_iff_prefix.1 hx).length_le
          exact ⟨this, fun _ => List.length_pos_iff.2 (symS_ne h)⟩
theorem nls_le (l : List UInt8) : nls l ≤ l.length := List.count_le_length
noncomputable def E24 : Env := envJ (P := Tryd.prog) jk zer (fun _ => false) (fun _ => false) [con29, con30, con31] []
theorem E24_ok : EnvOk Tryd.prog E24 := envJOk zer_ok
theorem lexG_step {n : Nat} {l : List UInt8} {line a : Int} {acc : List Tok} : lexG (n + 1) l line a acc =
    if l.drop (blk false l) = [] then (acc, 0, 0)
    else if (firstS (l.drop (blk false l))).1 = 0 then ([], a + blk false l, 6)
    else if acc.length = 4000 then ([], a + blk false l, 3)
    else lexG n ((l.drop (blk false l)).drop (firstS (l.drop (blk false l))).2.length) (line + nls (l.take (blk false l))) (a + blk false l + (firstS (l.drop (blk false l))).2.length)
      (acc ++ [⟨(firstS (l.drop (blk false l))).1, (firstS (l.drop (blk false l))).2, line + nls (l.take (blk false l)), a + blk false l⟩]) := rfl
structure Lp (l : List UInt8) where
  i : Nat
  line : Nat
  acc : List Tok
  ver : Nat
  n : Nat
  hi : i ≤ l.length
  hline : line ≤ i + 1
  hacc : acc.length ≤ i
  hn : l.length - i < n
  hF : lexG n (l.drop i) line i acc = lexG (l.length + 1) l 1 0 []
set_option maxHeartbeats 2000000 in
theorem lex_pc {s : ByteArray} : PC Tryd.prog 11 [.lit (.string s)] (lexV (lexS (ul s))) := by
  obtain ⟨l, rfl⟩ := bs_ex s
  simp only [ul_bs, bs_size] at *
  rcases Nat.lt_or_ge 20000 l.length with hb | hb
  · have g1 : decide ((l.length : Int) > 20000) = true := decide_eq_true (by omega)
    refine pc_ofR E24_ok mixed (kp11) (rs := [.tmp 2, .tmp 3, .tmp 4]) Tryd.func11 rfl (by kernel_rfl) (by kernel_rfl) (Nat.le_of_ble_eq_true rfl) ?_
    simp only [initF_cons, initF_nil, Nat.reduceAdd]
    refine t_name fun KF => ?_
    unfold E24
    repeat' (first
     | (with_reducible first | refine t_seq fun K => ?_ | refine t_block ?_ | refine t_scope ?_ | refine t_label ?_ | refine t_skip ?_ | refine t_exit ?_ | refine t_ret ?_ | refine t_k ?_ | refine t_gF ?_ | exact kp_nil | exact Kp.refl _ | exact kp_to | refine kp_cons ?_ | refine kp_arr ?_ | refine kp_app ?_ | refine t_p ?_ | refine t_br (fun hc => ?_) fun hc => ?_)
     | ((with_reducible first | refine t_kE (t_openE ?_) | refine t_kD (t_openD ?_) | refine t_kE ?_ | refine t_kD ?_ | refine t_gS ?_ | refine t_kL ?_ | refine t_kLF ?_ ?_ | refine t_region fun K => ?_ | refine t_cond fun A B => ?_ | refine t_draw (by kernel_rfl) fun K => ?_); (try (first | refine t_hideE fun KL => ?_ | refine t_hideD fun KL => ?_)); simp only [go_sem, geff, kp11, g1])
     | ((with_reducible refine kp_skip ?_ ?_); rfl) | simp only [thenQ, blockQ, scopeQ, Nat.reduceEqDiff, reduceIte] | (with_reducible first | refine And.intro ?_ ?_ | intro vr))
    all_goals ((first | refine end_retE ?_ | refine end_normE ?_); simp only [fin, go_sem])
    exact lex_nil (by unfold lexS; rw [if_pos hb])
  · have g1 : decide ((l.length : Int) > 20000) = false := decide_eq_false (by omega)
    have hS : lexS l = lexG (l.length + 1) l 1 0 [] := by unfold lexS; rw [if_neg (by omega)]
    rw [hS]
    refine pc_ofR E24_ok mixed (kp11) (rs := [.tmp 2, .tmp 3, .tmp 4]) Tryd.func11 rfl (by kernel_rfl) (by kernel_rfl) (Nat.le_of_ble_eq_true rfl) ?_
    simp only [initF_cons, initF_nil, Nat.reduceAdd]
    refine t_name fun KF => ?_
    unfold E24
    repeat' (first
     | (with_reducible first | refine t_seq fun K => ?_ | refine t_block ?_ | refine t_scope ?_ | refine t_label ?_ | refine t_skip ?_ | refine t_exit ?_ | refine t_ret ?_ | refine t_k ?_ | refine t_gF ?_ | exact kp_nil | exact Kp.refl _ | exact kp_to | refine kp_cons ?_ | refine kp_arr ?_ | refine kp_app ?_ | refine t_p ?_ | refine t_br (fun hc => ?_) fun hc => ?_)
     | ((with_reducible first | refine t_kE (t_openE ?_) | refine t_kD (t_openD ?_) | refine t_kE ?_ | refine t_kD ?_ | refine t_gS ?_ | refine t_kL ?_ | refine t_kLF ?_ ?_ | refine t_region fun K => ?_ | refine t_cond fun A B => ?_ | refine t_draw (by kernel_rfl) fun K => ?_); (try (first | refine t_hideE fun KL => ?_ | refine t_hideD fun KL => ?_)); simp only [go_sem, geff, kp11, g1])
     | ((with_reducible refine kp_skip ?_ ?_); rfl) | simp only [thenQ, blockQ, scopeQ, Nat.reduceEqDiff, reduceIte] | (with_reducible first | refine And.intro ?_ ?_ | intro vr))
    refine t_loopF (ι := Lp l) (fun i => [(3, .lit (.int .i64 i.i)), (5, .lit (.int .i64 i.line)), (2, .arr 0 i.ver)]) (fun i => [.arr 36 4 (toks i.acc) i.ver false]) (fun i => l.length - i.i) ⟨0, 1, [], 0, l.length + 1, by omega, by omega, by simp, by omega, by simp⟩ ?_ ?_
    · refine (le_nil 2 36 4 rfl).trans ?_
      simp only [updL_nil, updL_cons, delF_top, delF_upd, Nat.reduceEqDiff, reduceIte]
      refine Le.frameS (by first | rfl | (simp only [go_sem]; try rfl)) ?_
      repeat' (first | exact leF_top _ | exact (fun _ => LeR.refl _) | (with_reducible refine leF_sl ?_ ?_) | (refine leF_upd ?_ ?_))
      all_goals (first | exact LeR.top _ | exact LeR.refl _ | (refine LeR.of_eq ?_; (try simp only [go_sem]); try rfl) | ((try simp only [go_sem]); try rfl))
    rintro ⟨i, line, acc, ver, n, hi, hline, hacc, hn, hF⟩ K0
    cases n with
    | zero => omega
    | succ n =>
    rw [lexG_step] at hF
    have hk := blk_le false (l.drop i)
    generalize hk' : blk false (l.drop i) = k at *
    have hl : (l.drop i).length = l.length - i := by simp
    rw [List.drop_drop] at hF
    have e1 : ((i : Int) + (k : Int)).toNat = i + k := by omega
    have e2 : (l.take (i + k)).drop i = (l.drop i).take k := by rw [List.drop_take]; congr 1; omega
    have e3 : List.count 10 ((l.drop i).take k) = nls ((l.drop i).take k) := rfl
    have hnl := nls_le ((l.drop i).take k)
    have hlt : ((l.drop i).take k).length ≤ k := by simp; omega
    generalize hnk : nls ((l.drop i).take k) = nk at *
    have hln : ((line : Int) + (nk : Int)) = ((line + nk : Nat) : Int) := by omega
    by_cases h1 : i + k = l.length
    · have g2 : ((i : Int) + (k : Int) == (l.length : Int)) = true := by rw [beq_iff_eq]; omega
      rw [if_pos (by rw [h1]; exact List.drop_length)] at hF
      repeat' (first
       | (with_reducible first | refine t_seq fun K => ?_ | refine t_block ?_ | refine t_scope ?_ | refine t_label ?_ | refine t_skip ?_ | refine t_exit ?_ | refine t_ret ?_ | refine t_k ?_ | refine t_gF ?_ | exact kp_nil | exact Kp.refl _ | exact kp_to | refine kp_cons ?_ | refine kp_arr ?_ | refine kp_app ?_ | refine t_p ?_ | refine t_br (fun hc => ?_) fun hc => ?_)
       | ((with_reducible first | refine t_kE (t_openE ?_) | refine t_kD (t_openD ?_) | refine t_kE ?_ | refine t_kD ?_ | refine t_gS ?_ | refine t_kL ?_ | refine t_kLF ?_ ?_ | refine t_region fun K => ?_ | refine t_cond fun A B => ?_ | refine t_draw (by kernel_rfl) fun K => ?_); (try (first | refine t_hideE fun KL => ?_ | refine t_hideD fun KL => ?_)); simp only [go_sem, geff, kp11, updL_cons, updL_nil, Int.toNat_natCast, List.take_length, hk', e1, e2, e3, hnk, g2])
       | ((with_reducible refine kp_skip ?_ ?_); rfl) | simp only [thenQ, blockQ, scopeQ, Nat.reduceEqDiff, reduceIte] | (with_reducible first | refine And.intro ?_ ?_ | intro vr))
      all_goals try (first | (with_reducible assumption) | (intros; (try simp only [Bool.and_eq_true, Bool.or_eq_true, Bool.or_eq_false_iff, Bool.not_eq_true', Bool.not_eq_false', decide_eq_true_eq, decide_eq_false_iff_not, beq_iff_eq, beq_eq_false_iff_ne, bne_iff_ne, bne_eq_false_iff_eq, ne_eq, inI64, List.length_append] at *) <;> omega) | (intros; (with_reducible first | refine impB_ofR ?_ | refine and_ofB ?_ ?_) <;> with_reducible first | assumption | (refine impB_ofR ?_; assumption)) | ((try simp only [Bool.and_eq_true] at vr); simp only [impB, vr, Bool.or_true, Bool.true_or, Bool.and_self, Bool.not_true, Bool.not_false, Bool.and_true]; done))
      all_goals ((first | refine end_retE ?_ | refine end_normE ?_); simp only [fin, go_sem])
      exact lex_sl hF.symm
    · have g2 : ((i : Int) + (k : Int) == (l.length : Int)) = false := by rw [beq_eq_false_iff_ne]; omega
      have hne : l.drop (i + k) ≠ [] := by
        intro h
        have := congrArg List.length h
        simp at this; omega
      have hfl := firstS_len (l.drop (i + k))
      rw [if_neg hne] at hF
      generalize hfs : firstS (l.drop (i + k)) = r at hF hfl
      obtain ⟨kd, w⟩ := r
      simp only at hF hfl
      have hl2 : (l.drop (i + k)).length = l.length - (i + k) := by simp
      by_cases h2 : kd = 0
      · have g3 : (kd == 0) = true := by rw [beq_iff_eq]; exact h2
        rw [if_pos h2] at hF
        repeat' (first
         | (with_reducible first | refine t_seq fun K => ?_ | refine t_block ?_ | refine t_scope ?_ | refine t_label ?_ | refine t_skip ?_ | refine t_exit ?_ | refine t_ret ?_ | refine t_k ?_ | refine t_gF ?_ | exact kp_nil | exact Kp.refl _ | exact kp_to | refine kp_cons ?_ | refine kp_arr ?_ | refine kp_app ?_ | refine t_p ?_ | refine t_br (fun hc => ?_) fun hc => ?_)
         | ((with_reducible first | refine t_kE (t_openE ?_) | refine t_kD (t_openD ?_) | refine t_kE ?_ | refine t_kD ?_ | refine t_gS ?_ | refine t_kL ?_ | refine t_kLF ?_ ?_ | refine t_region fun K => ?_ | refine t_cond fun A B => ?_ | refine t_draw (by kernel_rfl) fun K => ?_); (try (first | refine t_hideE fun KL => ?_ | refine t_hideD fun KL => ?_)); simp only [go_sem, geff, kp11, updL_cons, updL_nil, Int.toNat_natCast, List.take_length, hk', e1, e2, e3, hnk, g2, hfs, fstV, g3])
         | ((with_reducible refine kp_skip ?_ ?_); rfl) | simp only [thenQ, blockQ, scopeQ, Nat.reduceEqDiff, reduceIte] | (with_reducible first | refine And.intro ?_ ?_ | intro vr))
        all_goals try (first | (with_reducible assumption) | (intros; (try simp only [Bool.and_eq_true, Bool.or_eq_true, Bool.or_eq_false_iff, Bool.not_eq_true', Bool.not_eq_false', decide_eq_true_eq, decide_eq_false_iff_not, beq_iff_eq, beq_eq_false_iff_ne, bne_iff_ne, bne_eq_false_iff_eq, ne_eq, inI64, List.length_append] at *) <;> omega) | (intros; (with_reducible first | refine impB_ofR ?_ | refine and_ofB ?_ ?_) <;> with_reducible first | assumption | (refine impB_ofR ?_; assumption)) | ((try simp only [Bool.and_eq_true] at vr); simp only [impB, vr, Bool.or_true, Bool.true_or, Bool.and_self, Bool.not_true, Bool.not_false, Bool.and_true]; done))
        all_goals ((first | refine end_retE ?_ | refine end_normE ?_); simp only [fin, go_sem])
        exact lex_nil (by rw [← hF])
      · have g3 : (kd == 0) = false := by rw [beq_eq_false_iff_ne]; exact h2
        have hw := hfl.2 h2
        rw [if_neg h2] at hF
        by_cases h3 : acc.length = 4000
        · have g4 : ((acc.length : Int) == 4000) = true := by rw [beq_iff_eq]; omega
          rw [if_pos h3] at hF
          repeat' (first
           | (with_reducible first | refine t_seq fun K => ?_ | refine t_block ?_ | refine t_scope ?_ | refine t_label ?_ | refine t_skip ?_ | refine t_exit ?_ | refine t_ret ?_ | refine t_k ?_ | refine t_gF ?_ | exact kp_nil | exact Kp.refl _ | exact kp_to | refine kp_cons ?_ | refine kp_arr ?_ | refine kp_app ?_ | refine t_p ?_ | refine t_br (fun hc => ?_) fun hc => ?_)
           | ((with_reducible first | refine t_kE (t_openE ?_) | refine t_kD (t_openD ?_) | refine t_kE ?_ | refine t_kD ?_ | refine t_gS ?_ | refine t_kL ?_ | refine t_kLF ?_ ?_ | refine t_region fun K => ?_ | refine t_cond fun A B => ?_ | refine t_draw (by kernel_rfl) fun K => ?_); (try (first | refine t_hideE fun KL => ?_ | refine t_hideD fun KL => ?_)); simp only [go_sem, geff, kp11, updL_cons, updL_nil, Int.toNat_natCast, List.take_length, hk', e1, e2, e3, hnk, g2, hfs, fstV, g3, g4])
           | ((with_reducible refine kp_skip ?_ ?_); rfl) | simp only [thenQ, blockQ, scopeQ, Nat.reduceEqDiff, reduceIte] | (with_reducible first | refine And.intro ?_ ?_ | intro vr))
          all_goals try (first | (with_reducible assumption) | (intros; (try simp only [Bool.and_eq_true, Bool.or_eq_true, Bool.or_eq_false_iff, Bool.not_eq_true', Bool.not_eq_false', decide_eq_true_eq, decide_eq_false_iff_not, beq_iff_eq, beq_eq_false_iff_ne, bne_iff_ne, bne_eq_false_iff_eq, ne_eq, inI64, List.length_append] at *) <;> omega) | (intros; (with_reducible first | refine impB_ofR ?_ | refine and_ofB ?_ ?_) <;> with_reducible first | assumption | (refine impB_ofR ?_; assumption)) | ((try simp only [Bool.and_eq_true] at vr); simp only [impB, vr, Bool.or_true, Bool.true_or, Bool.and_self, Bool.not_true, Bool.not_false, Bool.and_true]; done))
          all_goals ((first | refine end_retE ?_ | refine end_normE ?_); simp only [fin, go_sem])
          exact lex_nil (by rw [← hF])
        · have g4 : ((acc.length : Int) == 4000) = false := by rw [beq_eq_false_iff_ne]; omega
          rw [if_neg h3, List.drop_drop] at hF
          have e4 : ((i : Int) + (k : Int)) + (w.length : Int) = ((i + k + w.length : Nat) : Int) := by omega
          rw [hln] at hF
          repeat' (first
           | (with_reducible first | refine t_seq fun K => ?_ | refine t_block ?_ | refine t_scope ?_ | refine t_label ?_ | refine t_skip ?_ | refine t_exit ?_ | refine t_ret ?_ | refine t_k ?_ | refine t_gF ?_ | exact kp_nil | exact Kp.refl _ | exact kp_to | refine kp_cons ?_ | refine kp_arr ?_ | refine kp_app ?_ | refine t_p ?_ | refine t_br (fun hc => ?_) fun hc => ?_)
           | ((with_reducible first | refine t_kE (t_openE ?_) | refine t_kD (t_openD ?_) | refine t_kE ?_ | refine t_kD ?_ | refine t_gS ?_ | refine t_kL ?_ | refine t_kLF ?_ ?_ | refine t_region fun K => ?_ | refine t_cond fun A B => ?_ | refine t_draw (by kernel_rfl) fun K => ?_); (try (first | refine t_hideE fun KL => ?_ | refine t_hideD fun KL => ?_)); simp only [go_sem, geff, kp11, updL_cons, updL_nil, Int.toNat_natCast, List.take_length, hk', e1, e2, e3, hnk, g2, hfs, fstV, g3, g4, e4, hln])
           | ((with_reducible refine kp_skip ?_ ?_); rfl) | simp only [thenQ, blockQ, scopeQ, Nat.reduceEqDiff, reduceIte] | (with_reducible first | refine And.intro ?_ ?_ | intro vr))
          all_goals try (first | (with_reducible assumption) | (intros; (try simp only [Bool.and_eq_true, Bool.or_eq_true, Bool.or_eq_false_iff, Bool.not_eq_true', Bool.not_eq_false', decide_eq_true_eq, decide_eq_false_iff_not, beq_iff_eq, beq_eq_false_iff_ne, bne_iff_ne, bne_eq_false_iff_eq, ne_eq, inI64, List.length_append] at *) <;> omega) | (intros; (with_reducible first | refine impB_ofR ?_ | refine and_ofB ?_ ?_) <;> with_reducible first | assumption | (refine impB_ofR ?_; assumption)) | ((try simp only [Bool.and_eq_true] at vr); simp only [impB, vr, Bool.or_true, Bool.true_or, Bool.and_self, Bool.not_true, Bool.not_false, Bool.and_true]; done))
          refine ⟨⟨i + k + w.length, line + nk, acc ++ [⟨kd, w, (line + nk : Nat), (i : Int) + (k : Int)⟩], ver + 1, n, by omega, by omega, by simp; omega, by omega, ?_⟩, by simp only; omega, ?_⟩
          · rw [← hF, e4]
          · simp only [updL_nil, updL_cons, delF_top, delF_upd, Nat.reduceEqDiff, reduceIte]
            refine Le.frameS (by first | rfl | (simp only [go_sem]; try rfl)) ?_
            repeat' (first | exact leF_top _ | exact (fun _ => LeR.refl _) | (with_reducible refine leF_sl ?_ ?_) | (refine leF_upd ?_ ?_))
            all_goals (first | exact LeR.top _ | exact LeR.refl _ | (refine LeR.of_eq ?_; (try simp only [go_sem]); try rfl) | ((try simp only [go_sem]); try rfl))
noncomputable def con11 : PCon Tryd.prog where
  f := 11
  c := fun
    | [.lit (.string s)] => some (True, lexV (lexS (ul s)))
    | _ => none
  ok := by
    intro args p r hc hp
    split at hc
    · cases hc; exact lex_pc
    · cases hc
  fk := fk11
theorem con11_f : con11.f = 11 := rfl
theorem con11_c {s : ByteArray} : con11.c [.lit (.string s)] = some (True, lexV (lexS (ul s))) := rfl
attribute [go_sem] con11_f con11_c
end Go.Proofs.YtkkamgblakhmiaaDoor

/- The reference's tokens. -/
namespace Go.Proofs.YtkkamgblakhmiaaDoor
open Go Go.Fw
set_option maxRecDepth 20000

theorem firstS_pre (l : List UInt8) : (firstS l).2 = l.take (firstS l).2.length := by
  cases l with
  | nil => rfl
  | cons c l =>
    have r1 := runN_le true (c :: l)
    have r2 := runN_le false (c :: l)
    have e1 : min (runN true (c :: l)) (c :: l).length = runN true (c :: l) := by omega
    have e2 : min (runN false (c :: l)) (c :: l).length = runN false (c :: l) := by omega
    rw [firstC rfl]
    split
    · split
      · simp only [List.length_take, e1]
      · split
        · simp only [List.length_take, e1]
        · simp
    · split
      · split
        · simp only [List.length_take, e2]
        · simp
      · cases h : symS (c :: l) with
        | none => simp
        | some x =>
          have hx := List.find?_some h
          exact List.prefix_iff_eq_take.1 (List.isPrefixOf_iff_prefix.1 hx)
theorem run_no10 (b : Bool) (l : List UInt8) : nls (l.take (runN b l)) = 0 := by
  induction l with
  | nil => simp [nls]
  | cons c l ih =>
    simp only [runN]
    split
    · rename_i h
      have : c ≠ 10 := by intro e; subst e; revert h; cases b <;> decide
      simp only [List.take_succ_cons, nls, List.count_cons] at ih ⊢
      rw [ih]; simp [this]
    · simp [nls]
theorem firstS_no10 (l : List UInt8) : nls (firstS l).2 = 0 := by
  cases l with
  | nil => rfl
  | cons c l =>
    rw [firstC rfl]
    split
    · split
      · exact run_no10 _ _
      · split
        · exact run_no10 _ _
        · rfl
    · split
      · split
        · exact run_no10 _ _
        · rfl
      · cases h : symS (c :: l) with
        | none => rfl
        | some x =>
          have hx := List.mem_of_find?_eq_some h
          have : ∀ y ∈ symL, nls y = 0 := by decide
          exact this x hx
theorem nls_step {l : List UInt8} {f j : Nat} (hf : f ≤ j) (hj : j < l.length) : nls ((l.take (j + 1)).drop f) = nls ((l.take j).drop f) + (if l.getD j 0 == 10 then 1 else 0) := by
  rw [take_succ hj, List.drop_append_of_le_length (by simp; omega)]
  simp only [nls, List.count_append, List.count_cons, List.count_nil, Nat.zero_add]
theorem nls_split {l : List UInt8} {f i k : Nat} (hf : f ≤ i) (hk : i + k ≤ l.length) : nls ((l.take (i + k)).drop f) = nls ((l.take i).drop f) + nls ((l.drop i).take k) := by
  have e : l.take (i + k) = l.take i ++ (l.drop i).take k := List.take_add
  rw [e, List.drop_append_of_le_length (by simp; omega)]
  simp only [nls, List.count_append]
structure Lr (l : List UInt8) where
  i : Nat
  f : Nat
  line : Nat
  acc : List Tok
  ver : Nat
  n : Nat
  hi : i ≤ l.length
  hf : f ≤ i
  h0 : nls ((l.take i).drop f) = 0
  hline : line ≤ i + 1
  hacc : acc.length ≤ i
  hn : l.length - i < n
  hF : lexG n (l.drop i) line i acc = lexG (l.length + 1) l 1 0 []
noncomputable def E25 : Env := envJ (P := Tryd.prog) jk zer (fun _ => false) (fun _ => false) [con32, con33] []
theorem E25_ok : EnvOk Tryd.prog E25 := envJOk zer_ok
set_option maxHeartbeats 4000000 in
theorem rlex_pc {s : ByteArray} : PC Tryd.prog 12 [.lit (.string s)] (lexV (lexS (ul s))) := by
  obtain ⟨l, rfl⟩ := bs_ex s
  simp only [ul_bs, bs_size] at *
  rcases Nat.lt_or_ge 20000 l.length with hb | hb
  · have g1 : decide ((l.length : Int) > 20000) = true := decide_eq_true (by omega)
    refine pc_ofR E25_ok mixed (kp12) (rs := [.tmp 2, .tmp 3, .tmp 4]) Tryd.func12 rfl (by kernel_rfl) (by kernel_rfl) (Nat.le_of_ble_eq_true rfl) ?_
    simp only [initF_cons, initF_nil, Nat.reduceAdd]
    refine t_name fun KF => ?_
    unfold E25
    repeat' (first
     | (with_reducible first | refine t_seq fun K => ?_ | refine t_block ?_ | refine t_scope ?_ | refine t_label ?_ | refine t_skip ?_ | refine t_exit ?_ | refine t_ret ?_ | refine t_k ?_ | refine t_gF ?_ | exact kp_nil | exact Kp.refl _ | exact kp_to | refine kp_cons ?_ | refine kp_arr ?_ | refine kp_app ?_ | refine t_p ?_ | refine t_br (fun hc => ?_) fun hc => ?_)
     | ((with_reducible first | refine t_kE (t_openE ?_) | refine t_kD (t_openD ?_) | refine t_kE ?_ | refine t_kD ?_ | refine t_gS ?_ | refine t_kL ?_ | refine t_kLF ?_ ?_ | refine t_region fun K => ?_ | refine t_cond fun A B => ?_ | refine t_draw (by kernel_rfl) fun K => ?_); (try (first | refine t_hideE fun KL => ?_ | refine t_hideD fun KL => ?_)); simp only [go_sem, geff, kp12, g1])
     | ((with_reducible refine kp_skip ?_ ?_); rfl) | simp only [thenQ, blockQ, scopeQ, Nat.reduceEqDiff, reduceIte] | (with_reducible first | refine And.intro ?_ ?_ | intro vr))
    all_goals ((first | refine end_retE ?_ | refine end_normE ?_); simp only [fin, go_sem])
    exact lex_nil (by unfold lexS; rw [if_pos hb])
  · have g1 : decide ((l.length : Int) > 20000) = false := decide_eq_false (by omega)
    have hS : lexS l = lexG (l.length + 1) l 1 0 [] := by unfold lexS; rw [if_neg (by omega)]
    rw [hS]
    have z0 : Int.toNat 0 = 0 := rfl
    refine pc_ofR E25_ok mixed (kp12) (rs := [.tmp 2, .tmp 3, .tmp 4]) Tryd.func12 rfl (by kernel_rfl) (by kernel_rfl) (Nat.le_of_ble_eq_true rfl) ?_
    simp only [initF_cons, initF_nil, Nat.reduceAdd]
    refine t_name fun KF => ?_
    unfold E25
    repeat' (first
     | (with_reducible first | refine t_seq fun K => ?_ | refine t_block ?_ | refine t_scope ?_ | refine t_label ?_ | refine t_skip ?_ | refine t_exit ?_ | refine t_ret ?_ | refine t_k ?_ | refine t_gF ?_ | exact kp_nil | exact Kp.refl _ | exact kp_to | refine kp_cons ?_ | refine kp_arr ?_ | refine kp_app ?_ | refine t_p ?_ | refine t_br (fun hc => ?_) fun hc => ?_)
     | ((with_reducible first | refine t_kE (t_openE ?_) | refine t_kD (t_openD ?_) | refine t_kE ?_ | refine t_kD ?_ | refine t_gS ?_ | refine t_kL ?_ | refine t_kLF ?_ ?_ | refine t_region fun K => ?_ | refine t_cond fun A B => ?_ | refine t_draw (by kernel_rfl) fun K => ?_); (try (first | refine t_hideE fun KL => ?_ | refine t_hideD fun KL => ?_)); simp only [go_sem, geff, kp12, g1, z0, List.drop_zero])
     | ((with_reducible refine kp_skip ?_ ?_); rfl) | simp only [thenQ, blockQ, scopeQ, Nat.reduceEqDiff, reduceIte] | (with_reducible first | refine And.intro ?_ ?_ | intro vr))
    all_goals try (first | (with_reducible assumption) | (intros; (try simp only [Bool.and_eq_true, Bool.or_eq_true, Bool.or_eq_false_iff, Bool.not_eq_true', Bool.not_eq_false', decide_eq_true_eq, decide_eq_false_iff_not, beq_iff_eq, beq_eq_false_iff_ne, bne_iff_ne, bne_eq_false_iff_eq, ne_eq, inI64, List.length_append] at *) <;> omega) | (intros; (with_reducible first | refine impB_ofR ?_ | refine and_ofB ?_ ?_) <;> with_reducible first | assumption | (refine impB_ofR ?_; assumption)) | ((try simp only [Bool.and_eq_true] at vr); simp only [impB, vr, Bool.or_true, Bool.true_or, Bool.and_self, Bool.not_true, Bool.not_false, Bool.and_true]; done))
    refine t_loopF (ι := Lr l) (fun i => [(8, .lit (.int .i64 (i.i + blk false (l.drop i.i) : Nat))), (7, .lit (.int .i64 i.f)), (6, .lit (.int .i64 i.line)), (5, .arr 0 i.ver)]) (fun i => [.arr 41 4 (toks i.acc) i.ver false]) (fun i => l.length - i.i) ⟨0, 0, 1, [], 0, l.length + 1, by omega, by omega, by simp [nls], by omega, by simp, by omega, by simp⟩ ?_ ?_
    · refine (le_nil 5 41 4 rfl).trans ?_
      simp only [updL_nil, updL_cons, delF_top, delF_upd, Nat.reduceEqDiff, reduceIte]
      refine Le.frameS (by first | rfl | (simp only [go_sem]; try rfl)) ?_
      repeat' (first | exact leF_top _ | exact (fun _ => LeR.refl _) | (with_reducible refine leF_sl ?_ ?_) | (refine leF_upd ?_ ?_))
      all_goals (first | exact LeR.top _ | exact LeR.refl _ | (refine LeR.of_eq ?_; (try simp only [go_sem]); try rfl) | ((try simp only [go_sem]); try rfl))
    rintro ⟨i, f, line, acc, ver, n, hi, hf, h0, hline, hacc, hn, hF⟩ K0
    cases n with
    | zero => omega
    | succ n =>
    rw [lexG_step] at hF
    have hk := blk_le false (l.drop i)
    generalize hk' : blk false (l.drop i) = k at *
    have hl : (l.drop i).length = l.length - i := by simp
    rw [List.drop_drop] at hF
    by_cases h1 : i + k = l.length
    · have g2 : decide (((i + k : Nat) : Int) < (l.length : Int)) = false := decide_eq_false (by omega)
      rw [if_pos (by rw [h1]; exact List.drop_length)] at hF
      repeat' (first
       | (with_reducible first | refine t_seq fun K => ?_ | refine t_block ?_ | refine t_scope ?_ | refine t_label ?_ | refine t_skip ?_ | refine t_exit ?_ | refine t_ret ?_ | refine t_k ?_ | refine t_gF ?_ | exact kp_nil | exact Kp.refl _ | exact kp_to | refine kp_cons ?_ | refine kp_arr ?_ | refine kp_app ?_ | refine t_p ?_ | refine t_br (fun hc => ?_) fun hc => ?_)
       | ((with_reducible first | refine t_kE (t_openE ?_) | refine t_kD (t_openD ?_) | refine t_kE ?_ | refine t_kD ?_ | refine t_gS ?_ | refine t_kL ?_ | refine t_kLF ?_ ?_ | refine t_region fun K => ?_ | refine t_cond fun A B => ?_ | refine t_draw (by kernel_rfl) fun K => ?_); (try (first | refine t_hideE fun KL => ?_ | refine t_hideD fun KL => ?_)); simp only [go_sem, geff, kp12, updL_cons, updL_nil, Int.toNat_natCast, List.take_length, hk', g2])
       | ((with_reducible refine kp_skip ?_ ?_); rfl) | simp only [thenQ, blockQ, scopeQ, Nat.reduceEqDiff, reduceIte] | (with_reducible first | refine And.intro ?_ ?_ | intro vr))
      all_goals try (first | (with_reducible assumption) | (intros; (try simp only [Bool.and_eq_true, Bool.or_eq_true, Bool.or_eq_false_iff, Bool.not_eq_true', Bool.not_eq_false', decide_eq_true_eq, decide_eq_false_iff_not, beq_iff_eq, beq_eq_false_iff_ne, bne_iff_ne, bne_eq_false_iff_eq, ne_eq, inI64, List.length_append] at *) <;> omega) | (intros; (with_reducible first | refine impB_ofR ?_ | refine and_ofB ?_ ?_) <;> with_reducible first | assumption | (refine impB_ofR ?_; assumption)) | ((try simp only [Bool.and_eq_true] at vr); simp only [impB, vr, Bool.or_true, Bool.true_or, Bool.and_self, Bool.not_true, Bool.not_false, Bool.and_true]; done))
      all_goals ((first | refine end_retE ?_ | refine end_normE ?_); simp only [fin, go_sem])
      exact lex_sl hF.symm
    · have g2 : decide (((i + k : Nat) : Int) < (l.length : Int)) = true := decide_eq_true (by omega)
      have hne : l.drop (i + k) ≠ [] := by
        intro h
        have := congrArg List.length h
        simp at this; omega
      have hfl := firstS_len (l.drop (i + k))
      have hfp := firstS_pre (l.drop (i + k))
      have hfn := firstS_no10 (l.drop (i + k))
      rw [if_neg hne] at hF
      generalize hfs : firstS (l.drop (i + k)) = r at hF hfl hfp hfn
      obtain ⟨kd, w⟩ := r
      simp only at hF hfl hfp hfn
      have hl2 : (l.drop (i + k)).length = l.length - (i + k) := by simp
      by_cases h2 : kd = 0
      · have g3 : (kd == 0) = true := by rw [beq_iff_eq]; exact h2
        rw [if_pos h2] at hF
        repeat' (first
         | (with_reducible first | refine t_seq fun K => ?_ | refine t_block ?_ | refine t_scope ?_ | refine t_label ?_ | refine t_skip ?_ | refine t_exit ?_ | refine t_ret ?_ | refine t_k ?_ | refine t_gF ?_ | exact kp_nil | exact Kp.refl _ | exact kp_to | refine kp_cons ?_ | refine kp_arr ?_ | refine kp_app ?_ | refine t_p ?_ | refine t_br (fun hc => ?_) fun hc => ?_)
         | ((with_reducible first | refine t_kE (t_openE ?_) | refine t_kD (t_openD ?_) | refine t_kE ?_ | refine t_kD ?_ | refine t_gS ?_ | refine t_kL ?_ | refine t_kLF ?_ ?_ | refine t_region fun K => ?_ | refine t_cond fun A B => ?_ | refine t_draw (by kernel_rfl) fun K => ?_); (try (first | refine t_hideE fun KL => ?_ | refine t_hideD fun KL => ?_)); simp only [go_sem, geff, kp12, updL_cons, updL_nil, Int.toNat_natCast, List.take_length, hk', g2, hfs, nextV, tokV, g3])
         | ((with_reducible refine kp_skip ?_ ?_); rfl) | simp only [thenQ, blockQ, scopeQ, Nat.reduceEqDiff, reduceIte] | (with_reducible first | refine And.intro ?_ ?_ | intro vr))
        all_goals try (first | (with_reducible assumption) | (intros; (try simp only [Bool.and_eq_true, Bool.or_eq_true, Bool.or_eq_false_iff, Bool.not_eq_true', Bool.not_eq_false', decide_eq_true_eq, decide_eq_false_iff_not, beq_iff_eq, beq_eq_false_iff_ne, bne_iff_ne, bne_eq_false_iff_eq, ne_eq, inI64, List.length_append, List.length_take, List.length_drop] at *) <;> omega) | (intros; (with_reducible first | refine impB_ofR ?_ | refine and_ofB ?_ ?_) <;> with_reducible first | assumption | (refine impB_ofR ?_; assumption)) | ((try simp only [Bool.and_eq_true] at vr); simp only [impB, vr, Bool.or_true, Bool.true_or, Bool.and_self, Bool.not_true, Bool.not_false, Bool.and_true]; done))
        all_goals ((first | refine end_retE ?_ | refine end_normE ?_); simp only [fin, go_sem])
        exact lex_nil (by rw [← hF]; push_cast; rfl)
      · have g3 : (kd == 0) = false := by rw [beq_eq_false_iff_ne]; exact h2
        have hw := hfl.2 h2
        rw [if_neg h2] at hF
        by_cases h3 : acc.length = 4000
        · have g4 : ((acc.length : Int) == 4000) = true := by rw [beq_iff_eq]; omega
          rw [if_pos h3] at hF
          repeat' (first
           | (with_reducible first | refine t_seq fun K => ?_ | refine t_block ?_ | refine t_scope ?_ | refine t_label ?_ | refine t_skip ?_ | refine t_exit ?_ | refine t_ret ?_ | refine t_k ?_ | refine t_gF ?_ | exact kp_nil | exact Kp.refl _ | exact kp_to | refine kp_cons ?_ | refine kp_arr ?_ | refine kp_app ?_ | refine t_p ?_ | refine t_br (fun hc => ?_) fun hc => ?_)
           | ((with_reducible first | refine t_kE (t_openE ?_) | refine t_kD (t_openD ?_) | refine t_kE ?_ | refine t_kD ?_ | refine t_gS ?_ | refine t_kL ?_ | refine t_kLF ?_ ?_ | refine t_region fun K => ?_ | refine t_cond fun A B => ?_ | refine t_draw (by kernel_rfl) fun K => ?_); (try (first | refine t_hideE fun KL => ?_ | refine t_hideD fun KL => ?_)); simp only [go_sem, geff, kp12, updL_cons, updL_nil, Int.toNat_natCast, List.take_length, hk', g2, hfs, nextV, tokV, g3, g4])
           | ((with_reducible refine kp_skip ?_ ?_); rfl) | simp only [thenQ, blockQ, scopeQ, Nat.reduceEqDiff, reduceIte] | (with_reducible first | refine And.intro ?_ ?_ | intro vr))
          all_goals try (first | (with_reducible assumption) | (intros; (try simp only [Bool.and_eq_true, Bool.or_eq_true, Bool.or_eq_false_iff, Bool.not_eq_true', Bool.not_eq_false', decide_eq_true_eq, decide_eq_false_iff_not, beq_iff_eq, beq_eq_false_iff_ne, bne_iff_ne, bne_eq_false_iff_eq, ne_eq, inI64, List.length_append, List.length_take, List.length_drop] at *) <;> omega) | (intros; (with_reducible first | refine impB_ofR ?_ | refine and_ofB ?_ ?_) <;> with_reducible first | assumption | (refine impB_ofR ?_; assumption)) | ((try simp only [Bool.and_eq_true] at vr); simp only [impB, vr, Bool.or_true, Bool.true_or, Bool.and_self, Bool.not_true, Bool.not_false, Bool.and_true]; done))
          all_goals ((first | refine end_retE ?_ | refine end_normE ?_); simp only [fin, go_sem])
          exact lex_nil (by rw [← hF]; push_cast; rfl)
        · have g4 : ((acc.length : Int) == 4000) = false := by rw [beq_eq_false_iff_ne]; omega
          rw [if_neg h3, List.drop_drop] at hF
          repeat' (first
           | (with_reducible first | refine t_seq fun K => ?_ | refine t_block ?_ | refine t_scope ?_ | refine t_label ?_ | refine t_skip ?_ | refine t_exit ?_ | refine t_ret ?_ | refine t_k ?_ | refine t_gF ?_ | exact kp_nil | exact Kp.refl _ | exact kp_to | refine kp_cons ?_ | refine kp_arr ?_ | refine kp_app ?_ | refine t_p ?_ | refine t_br (fun hc => ?_) fun hc => ?_)
           | ((with_reducible first | refine t_kE (t_openE ?_) | refine t_kD (t_openD ?_) | refine t_kE ?_ | refine t_kD ?_ | refine t_gS ?_ | refine t_kL ?_ | refine t_kLF ?_ ?_ | refine t_region fun K => ?_ | refine t_cond fun A B => ?_ | refine t_draw (by kernel_rfl) fun K => ?_); (try (first | refine t_hideE fun KL => ?_ | refine t_hideD fun KL => ?_)); simp only [go_sem, geff, kp12, updL_cons, updL_nil, Int.toNat_natCast, List.take_length, hk', g2, hfs, nextV, tokV, g3, g4])
           | ((with_reducible refine kp_skip ?_ ?_); rfl) | simp only [thenQ, blockQ, scopeQ, Nat.reduceEqDiff, reduceIte] | (with_reducible first | refine And.intro ?_ ?_ | intro vr))
          all_goals try (first | (with_reducible assumption) | (intros; (try simp only [Bool.and_eq_true, Bool.or_eq_true, Bool.or_eq_false_iff, Bool.not_eq_true', Bool.not_eq_false', decide_eq_true_eq, decide_eq_false_iff_not, beq_iff_eq, beq_eq_false_iff_ne, bne_iff_ne, bne_eq_false_iff_eq, ne_eq, inI64, List.length_append, List.length_take, List.length_drop] at *) <;> omega) | (intros; (with_reducible first | refine impB_ofR ?_ | refine and_ofB ?_ ?_) <;> with_reducible first | assumption | (refine impB_ofR ?_; assumption)) | ((try simp only [Bool.and_eq_true] at vr); simp only [impB, vr, Bool.or_true, Bool.true_or, Bool.and_self, Bool.not_true, Bool.not_false, Bool.and_true]; done))
          have hbx : ∀ j, nls ((l.take j).drop f) ≤ j := fun j => by
            have := nls_le ((l.take j).drop f)
            simp at this; omega
          have hff : line = line + nls ((l.take f).drop f) := by
            have : (l.take f).drop f = [] := List.drop_eq_nil_of_le (by simp; omega)
            rw [this]; rfl
          have hend : nls ((l.take (i + k)).drop f) = nls ((l.drop i).take k) := by rw [nls_split hf (by omega), h0, Nat.zero_add]
          refine t_loopF (ι := { p : Nat × Nat // f ≤ p.1 ∧ p.1 ≤ i + k ∧ p.2 = line + nls ((l.take p.1).drop f) }) (fun i => [(7, .lit (.int .i64 i.1.1)), (6, .lit (.int .i64 i.1.2)), (32, .top)]) (fun i => [.arr 41 4 (toks acc) ver false, .box 41 [.lit (.int .i64 kd), .lit (.string (bs w)), .lit (.int .i64 0), .lit (.int .i64 0)]]) (fun i => l.length - i.1.1) ⟨(f, line), Nat.le_refl _, by simp only; omega, hff⟩ ?_ ?_
          · simp only [updL_nil, updL_cons, delF_top, delF_upd, Nat.reduceEqDiff, reduceIte]
            refine Le.frameS (by first | rfl | (simp only [go_sem]; try rfl)) ?_
            repeat' (first | exact leF_top _ | exact (fun _ => LeR.refl _) | (with_reducible refine leF_sl ?_ ?_) | (refine leF_upd ?_ ?_))
            all_goals (first | exact LeR.top _ | exact LeR.refl _ | (refine LeR.of_eq ?_; (try simp only [go_sem]); try rfl) | ((try simp only [go_sem]); try rfl))
          rintro ⟨⟨j, ln⟩, hj1, hj2, hj3⟩ K1
          simp only at hj1 hj2 hj3
          have hbj := hbx j
          rcases Nat.lt_or_ge j (i + k) with hlt | hge
          · have g5 : decide ((j : Int) < ((i + k : Nat) : Int)) = true := decide_eq_true (by omega)
            have hst := nls_step (l := l) hj1 (by omega)
            cases h5 : (l.getD j 0 == 10) with
            | true =>
              rw [h5, if_pos rfl] at hst
              repeat' (first
               | (with_reducible first | refine t_seq fun K => ?_ | refine t_block ?_ | refine t_scope ?_ | refine t_label ?_ | refine t_skip ?_ | refine t_exit ?_ | refine t_ret ?_ | refine t_k ?_ | refine t_gF ?_ | exact kp_nil | exact Kp.refl _ | exact kp_to | refine kp_cons ?_ | refine kp_arr ?_ | refine kp_app ?_ | refine t_p ?_ | refine t_br (fun hc => ?_) fun hc => ?_)
               | ((with_reducible first | refine t_kE (t_openE ?_) | refine t_kD (t_openD ?_) | refine t_kE ?_ | refine t_kD ?_ | refine t_gS ?_ | refine t_kL ?_ | refine t_kLF ?_ ?_ | refine t_region fun K => ?_ | refine t_cond fun A B => ?_ | refine t_draw (by kernel_rfl) fun K => ?_); (try (first | refine t_hideE fun KL => ?_ | refine t_hideD fun KL => ?_)); simp only [go_sem, geff, kp12, updL_cons, updL_nil, Int.toNat_natCast, bt10, h5, g5])
               | ((with_reducible refine kp_skip ?_ ?_); rfl) | simp only [thenQ, blockQ, scopeQ, Nat.reduceEqDiff, reduceIte] | (with_reducible first | refine And.intro ?_ ?_ | intro vr))
              all_goals try (first | (with_reducible assumption) | (intros; (try simp only [Bool.and_eq_true, Bool.or_eq_true, Bool.or_eq_false_iff, Bool.not_eq_true', Bool.not_eq_false', decide_eq_true_eq, decide_eq_false_iff_not, beq_iff_eq, beq_eq_false_iff_ne, bne_iff_ne, bne_eq_false_iff_eq, ne_eq, inI64, List.length_append] at *) <;> omega) | (intros; (with_reducible first | refine impB_ofR ?_ | refine and_ofB ?_ ?_) <;> with_reducible first | assumption | (refine impB_ofR ?_; assumption)) | ((try simp only [Bool.and_eq_true] at vr); simp only [impB, vr, Bool.or_true, Bool.true_or, Bool.and_self, Bool.not_true, Bool.not_false, Bool.and_true]; done))
              refine ⟨⟨(j + 1, ln + 1), by simp only; omega, by simp only; omega, by simp only; omega⟩, by first | (simp only; omega) | omega, ?_⟩
              simp only [updL_nil, updL_cons, delF_top, delF_upd, Nat.reduceEqDiff, reduceIte]
              refine Le.frameS (by first | rfl | (simp only [go_sem]; try rfl)) ?_
              repeat' (first | exact leF_top _ | exact (fun _ => LeR.refl _) | (with_reducible refine leF_sl ?_ ?_) | (refine leF_upd ?_ ?_))
              all_goals (first | exact LeR.top _ | exact LeR.refl _ | (refine LeR.of_eq ?_; (try simp only [go_sem]); try rfl) | ((try simp only [go_sem]); try rfl))
            | false =>
              rw [h5, if_neg (by simp)] at hst
              repeat' (first
               | (with_reducible first | refine t_seq fun K => ?_ | refine t_block ?_ | refine t_scope ?_ | refine t_label ?_ | refine t_skip ?_ | refine t_exit ?_ | refine t_ret ?_ | refine t_k ?_ | refine t_gF ?_ | exact kp_nil | exact Kp.refl _ | exact kp_to | refine kp_cons ?_ | refine kp_arr ?_ | refine kp_app ?_ | refine t_p ?_ | refine t_br (fun hc => ?_) fun hc => ?_)
               | ((with_reducible first | refine t_kE (t_openE ?_) | refine t_kD (t_openD ?_) | refine t_kE ?_ | refine t_kD ?_ | refine t_gS ?_ | refine t_kL ?_ | refine t_kLF ?_ ?_ | refine t_region fun K => ?_ | refine t_cond fun A B => ?_ | refine t_draw (by kernel_rfl) fun K => ?_); (try (first | refine t_hideE fun KL => ?_ | refine t_hideD fun KL => ?_)); simp only [go_sem, geff, kp12, updL_cons, updL_nil, Int.toNat_natCast, bt10, h5, g5])
               | ((with_reducible refine kp_skip ?_ ?_); rfl) | simp only [thenQ, blockQ, scopeQ, Nat.reduceEqDiff, reduceIte] | (with_reducible first | refine And.intro ?_ ?_ | intro vr))
              all_goals try (first | (with_reducible assumption) | (intros; (try simp only [Bool.and_eq_true, Bool.or_eq_true, Bool.or_eq_false_iff, Bool.not_eq_true', Bool.not_eq_false', decide_eq_true_eq, decide_eq_false_iff_not, beq_iff_eq, beq_eq_false_iff_ne, bne_iff_ne, bne_eq_false_iff_eq, ne_eq, inI64, List.length_append] at *) <;> omega) | (intros; (with_reducible first | refine impB_ofR ?_ | refine and_ofB ?_ ?_) <;> with_reducible first | assumption | (refine impB_ofR ?_; assumption)) | ((try simp only [Bool.and_eq_true] at vr); simp only [impB, vr, Bool.or_true, Bool.true_or, Bool.and_self, Bool.not_true, Bool.not_false, Bool.and_true]; done))
              refine ⟨⟨(j + 1, ln), by simp only; omega, by simp only; omega, by simp only; omega⟩, by first | (simp only; omega) | omega, ?_⟩
              simp only [updL_nil, updL_cons, delF_top, delF_upd, Nat.reduceEqDiff, reduceIte]
              refine Le.frameS (by first | rfl | (simp only [go_sem]; try rfl)) ?_
              repeat' (first | exact leF_top _ | exact (fun _ => LeR.refl _) | (with_reducible refine leF_sl ?_ ?_) | (refine leF_upd ?_ ?_))
              all_goals (first | exact LeR.top _ | exact LeR.refl _ | (refine LeR.of_eq ?_; (try simp only [go_sem]); try rfl) | ((try simp only [go_sem]); try rfl))
          · have g5 : decide ((j : Int) < ((i + k : Nat) : Int)) = false := decide_eq_false (by omega)
            have hj : j = i + k := by omega
            subst hj
            have e4 : (((i + k : Nat) : Int)) + (w.length : Int) = ((i + k + w.length : Nat) : Int) := by omega
            rw [hend] at hj3
            have e5 : ((line : Int) + (nls ((l.drop i).take k) : Int)) = ((line + nls ((l.drop i).take k) : Nat) : Int) := by omega
            rw [e5, ← hj3] at hF
            have e6 : ((i : Int) + (k : Int)) = ((i + k : Nat) : Int) := by omega
            rw [e6, e4] at hF
            have e7 : (((i + k + w.length : Nat) : Int) + (blk false (l.drop (i + k + w.length)) : Int)) = ((i + k + w.length + blk false (l.drop (i + k + w.length)) : Nat) : Int) := by omega
            have hz : nls ((l.take (i + k + w.length)).drop (i + k)) = 0 := by
              rw [List.drop_take, show i + k + w.length - (i + k) = w.length by omega, ← hfp]; exact hfn
            repeat' (first
             | (with_reducible first | refine t_seq fun K => ?_ | refine t_block ?_ | refine t_scope ?_ | refine t_label ?_ | refine t_skip ?_ | refine t_exit ?_ | refine t_ret ?_ | refine t_k ?_ | refine t_gF ?_ | exact kp_nil | exact Kp.refl _ | exact kp_to | refine kp_cons ?_ | refine kp_arr ?_ | refine kp_app ?_ | refine t_p ?_ | refine t_br (fun hc => ?_) fun hc => ?_)
             | ((with_reducible first | refine t_kE (t_openE ?_) | refine t_kD (t_openD ?_) | refine t_kE ?_ | refine t_kD ?_ | refine t_gS ?_ | refine t_kL ?_ | refine t_kLF ?_ ?_ | refine t_region fun K => ?_ | refine t_cond fun A B => ?_ | refine t_draw (by kernel_rfl) fun K => ?_); (try (first | refine t_hideE fun KL => ?_ | refine t_hideD fun KL => ?_)); simp only [go_sem, geff, kp12, updL_cons, updL_nil, Int.toNat_natCast, g5, e4, e7])
             | ((with_reducible refine kp_skip ?_ ?_); rfl) | simp only [thenQ, blockQ, scopeQ, Nat.reduceEqDiff, reduceIte] | (with_reducible first | refine And.intro ?_ ?_ | intro vr))
            all_goals try (first | (with_reducible assumption) | (intros; (try simp only [Bool.and_eq_true, Bool.or_eq_true, Bool.or_eq_false_iff, Bool.not_eq_true', Bool.not_eq_false', decide_eq_true_eq, decide_eq_false_iff_not, beq_iff_eq, beq_eq_false_iff_ne, bne_iff_ne, bne_eq_false_iff_eq, ne_eq, inI64, List.length_append, List.length_take, List.length_drop] at *) <;> omega) | (intros; (with_reducible first | refine impB_ofR ?_ | refine and_ofB ?_ ?_) <;> with_reducible first | assumption | (refine impB_ofR ?_; assumption)) | ((try simp only [Bool.and_eq_true] at vr); simp only [impB, vr, Bool.or_true, Bool.true_or, Bool.and_self, Bool.not_true, Bool.not_false, Bool.and_true]; done))
            have hnb := nls_le ((l.drop i).take k)
            have hnc : ((l.drop i).take k).length ≤ k := by simp; omega
            refine ⟨⟨i + k + w.length, i + k, ln, acc ++ [⟨kd, w, ln, ((i + k : Nat) : Int)⟩], ver + 1, n, by omega, by omega, hz, by omega, by simp; omega, by omega, hF⟩, by first | (simp only; omega) | omega, ?_⟩
            simp only [updL_nil, updL_cons, delF_top, delF_upd, Nat.reduceEqDiff, reduceIte]
            refine le_backD (by first | rfl | (simp only [go_sem]; try rfl)) (by first | exact Nat.zero_le _ | simp) (by first | rfl | simp [lowO, low_lit, low_sl, low_ref, low_arr]) ?_ ?_
            · repeat' (first | exact low_top | (refine low_upd rfl ?_))
            repeat' (first | exact leF_top _ | exact (fun _ => LeR.refl _) | (with_reducible refine leF_sl ?_ ?_) | (refine leF_upd ?_ ?_))
            all_goals (first | exact LeR.top _ | exact LeR.refl _ | (refine LeR.of_eq ?_; (try simp only [go_sem]); try rfl) | ((try simp only [go_sem]); try rfl))
noncomputable def con12 : PCon Tryd.prog where
  f := 12
  c := fun
    | [.lit (.string s)] => some (True, lexV (lexS (ul s)))
    | _ => none
  ok := by
    intro args p r hc hp
    split at hc
    · cases hc; exact rlex_pc
    · cases hc
  fk := fk12
theorem con12_f : con12.f = 12 := rfl
theorem con12_c {s : ByteArray} : con12.c [.lit (.string s)] = some (True, lexV (lexS (ul s))) := rfl
attribute [go_sem] con12_f con12_c
end Go.Proofs.YtkkamgblakhmiaaDoor

/- Tokens compared; the examples. -/
namespace Go.Proofs.YtkkamgblakhmiaaDoor
open Go Go.Fw
set_option maxRecDepth 20000

def unTok : AV → Option Tok
  | .agg [.lit (.int .i64 k), .lit (.string s), .lit (.int .i64 a), .lit (.int .i64 b)] => some ⟨k, ul s, a, b⟩
  | _ => none
def unToks : List AV → Option (List Tok)
  | [] => some []
  | x :: xs => match unTok x, unToks xs with
    | some t, some l => some (t :: l)
    | _, _ => none
def tkOf : AV → Option (List Tok)
  | .sl _ 4 xs => unToks xs
  | .lit (.slice none 0 0) => some []
  | _ => none
theorem bs_ul (s : ByteArray) : bs (ul s) = s := bs_data s
theorem unTok_eq {x : AV} {t : Tok} (h : unTok x = some t) : x = tokV t := by
  unfold unTok at h
  split at h
  · cases h; simp [tokV, bs_ul]
  · cases h
theorem unToks_eq : ∀ {xs : List AV} {l : List Tok}, unToks xs = some l → xs = toks l
  | [], l, h => by cases h; rfl
  | x :: xs, l, h => by
    simp only [unToks] at h
    split at h
    · rename_i t l' h1 h2
      cases h
      rw [unTok_eq h1, unToks_eq h2]; rfl
    · cases h
theorem unToks_toks (l : List Tok) : unToks (toks l) = some l := by
  induction l with
  | nil => rfl
  | cons t l ih => simp only [toks, List.map_cons, tokV, unToks, unTok, ul_bs] at ih ⊢; rw [ih]
theorem tkOf_sl {b : Bool} {l : List Tok} : tkOf (.sl b 4 (toks l)) = some l := unToks_toks l
theorem tkOf_nil : tkOf (.lit (.slice none 0 0)) = some [] := rfl
theorem tkOf_le {x : AV} {l : List Tok} (h : tkOf x = some l) : LeA x (.sl false 4 (toks l)) := by
  unfold tkOf at h
  split at h
  · rename_i b xs; rw [unToks_eq h]; exact LeA.full b 4 _
  · cases h; exact LeA.nil _ _
  · cases h
theorem tkOf_leR {x : AV} {l : List Tok} (h : tkOf x = some l) : LeR x (.sl false 4 (toks l)) := by
  unfold tkOf at h
  split at h
  · rename_i b xs; rw [unToks_eq h]
    cases b with
    | true => exact LeR.full 4 _ true
    | false => exact LeR.refl _
  · cases h; exact LeR.nil _ _
  · cases h
attribute [go_sem] tkOf_sl tkOf_nil
noncomputable def E26 : Env := envJ (P := Tryd.prog) jk zer (fun _ => false) (fun _ => false) [] []
theorem E26_ok : EnvOk Tryd.prog E26 := envJOk zer_ok
theorem tok_eq (a b : Tok) : ((a.k == b.k) && ((a.t == b.t) && ((a.line == b.line) && (a.at_ == b.at_)))) = decide (a = b) := by
  rw [Bool.eq_iff_iff]
  cases a; cases b
  simp
theorem drop_tok {l : List Tok} {i : Nat} (h : i < l.length) : l.drop i = l.getD i ⟨0, [], 0, 0⟩ :: l.drop (i + 1) := by
  rw [List.drop_eq_getElem_cons h, List.getD_eq_getElem?_getD, List.getElem?_eq_getElem h]; rfl
set_option maxHeartbeats 1000000 in
theorem same_pc {a b : List Tok} (ha : a.length ≤ 1000000000) : PC Tryd.prog 13 [.sl false 4 (toks a), .sl false 4 (toks b)] (.lit (.bool (decide (a = b)))) := by
  by_cases hl : a.length = b.length
  · have g1 : ((a.length : Int) != (b.length : Int)) = false := by rw [bne_eq_false_iff_eq]; omega
    refine pc_ofR E26_ok mixed (kp13) (rs := [.tmp 4]) Tryd.func13 rfl (by kernel_rfl) (by kernel_rfl) (Nat.le_of_ble_eq_true rfl) ?_
    simp only [initF_cons, initF_nil, Nat.reduceAdd]
    refine t_name fun KF => ?_
    unfold E26
    repeat' (first
     | (with_reducible first | refine t_seq fun K => ?_ | refine t_block ?_ | refine t_scope ?_ | refine t_label ?_ | refine t_skip ?_ | refine t_exit ?_ | refine t_ret ?_ | refine t_k ?_ | refine t_gF ?_ | exact kp_nil | exact Kp.refl _ | exact kp_to | refine kp_cons ?_ | refine kp_arr ?_ | refine kp_app ?_ | refine t_p ?_ | refine t_br (fun hc => ?_) fun hc => ?_)
     | ((with_reducible first | refine t_kE (t_openE ?_) | refine t_kD (t_openD ?_) | refine t_kE ?_ | refine t_kD ?_ | refine t_gS ?_ | refine t_kL ?_ | refine t_kLF ?_ ?_ | refine t_region fun K => ?_ | refine t_cond fun A B => ?_ | refine t_draw (by kernel_rfl) fun K => ?_); (try (first | refine t_hideE fun KL => ?_ | refine t_hideD fun KL => ?_)); simp only [go_sem, geff, kp13, g1])
     | ((with_reducible refine kp_skip ?_ ?_); rfl) | simp only [thenQ, blockQ, scopeQ, Nat.reduceEqDiff, reduceIte] | (with_reducible first | refine And.intro ?_ ?_ | intro vr))
    all_goals try (first | (with_reducible assumption) | (intros; (try simp only [Bool.and_eq_true, Bool.or_eq_true, Bool.or_eq_false_iff, Bool.not_eq_true', Bool.not_eq_false', decide_eq_true_eq, decide_eq_false_iff_not, beq_iff_eq, beq_eq_false_iff_ne, bne_iff_ne, bne_eq_false_iff_eq, ne_eq, inI64, List.length_append] at *) <;> omega) | (intros; (with_reducible first | refine impB_ofR ?_ | refine and_ofB ?_ ?_) <;> with_reducible first | assumption | (refine impB_ofR ?_; assumption)) | ((try simp only [Bool.and_eq_true] at vr); simp only [impB, vr, Bool.or_true, Bool.true_or, Bool.and_self, Bool.not_true, Bool.not_false, Bool.and_true]; done))
    refine t_loopF (ι := { i : Nat // i ≤ a.length ∧ decide (a = b) = decide (a.drop i = b.drop i) }) (fun i => [(5, .lit (.int .i64 i.1))]) (fun i => []) (fun i => a.length - i.1) ⟨0, by omega, by simp⟩ ?_ ?_
    · simp only [updL_nil, updL_cons, delF_top, delF_upd, Nat.reduceEqDiff, reduceIte]
      refine Le.frameS (by first | rfl | (simp only [go_sem]; try rfl)) ?_
      repeat' (first | exact leF_top _ | exact (fun _ => LeR.refl _) | (with_reducible refine leF_sl ?_ ?_) | (refine leF_upd ?_ ?_))
      all_goals (first | exact LeR.top _ | exact LeR.refl _ | (refine LeR.of_eq ?_; (try simp only [go_sem]); try rfl) | ((try simp only [go_sem]); try rfl))
    rintro ⟨i, hi, hF⟩ K0
    rcases Nat.lt_or_ge i a.length with hlt | hge
    · have g5 : decide ((i : Int) < (a.length : Int)) = true := decide_eq_true (by omega)
      have hF2 : decide (a = b) = (decide (a.getD i ⟨0, [], 0, 0⟩ = b.getD i ⟨0, [], 0, 0⟩) && decide (a.drop (i + 1) = b.drop (i + 1))) := by
        rw [hF, drop_tok hlt, drop_tok (show i < b.length by omega)]
        simp
      have ht := tok_eq (a.getD i ⟨0, [], 0, 0⟩) (b.getD i ⟨0, [], 0, 0⟩)
      generalize hx : a.getD i ⟨0, [], 0, 0⟩ = x at *
      generalize hy : b.getD i ⟨0, [], 0, 0⟩ = y at *
      repeat' (first
       | (with_reducible first | refine t_seq fun K => ?_ | refine t_block ?_ | refine t_scope ?_ | refine t_label ?_ | refine t_skip ?_ | refine t_exit ?_ | refine t_ret ?_ | refine t_k ?_ | refine t_gF ?_ | exact kp_nil | exact Kp.refl _ | exact kp_to | refine kp_cons ?_ | refine kp_arr ?_ | refine kp_app ?_ | refine t_p ?_ | refine t_br (fun hc => ?_) fun hc => ?_)
       | ((with_reducible first | refine t_kE (t_openE ?_) | refine t_kD (t_openD ?_) | refine t_kE ?_ | refine t_kD ?_ | refine t_gS ?_ | refine t_kL ?_ | refine t_kLF ?_ ?_ | refine t_region fun K => ?_ | refine t_cond fun A B => ?_ | refine t_draw (by kernel_rfl) fun K => ?_); (try (first | refine t_hideE fun KL => ?_ | refine t_hideD fun KL => ?_)); simp only [go_sem, geff, kp13, updL_cons, updL_nil, Int.toNat_natCast, g5, tokV, hx, hy, ht])
       | ((with_reducible refine kp_skip ?_ ?_); rfl) | simp only [thenQ, blockQ, scopeQ, Nat.reduceEqDiff, reduceIte] | (with_reducible first | refine And.intro ?_ ?_ | intro vr))
      all_goals try (first | (with_reducible assumption) | (intros; (try simp only [Bool.and_eq_true, Bool.or_eq_true, Bool.or_eq_false_iff, Bool.not_eq_true', Bool.not_eq_false', decide_eq_true_eq, decide_eq_false_iff_not, beq_iff_eq, beq_eq_false_iff_ne, bne_iff_ne, bne_eq_false_iff_eq, ne_eq, inI64, List.length_append] at *) <;> omega) | (intros; (with_reducible first | refine impB_ofR ?_ | refine and_ofB ?_ ?_) <;> with_reducible first | assumption | (refine impB_ofR ?_; assumption)) | ((try simp only [Bool.and_eq_true] at vr); simp only [impB, vr, Bool.or_true, Bool.true_or, Bool.and_self, Bool.not_true, Bool.not_false, Bool.and_true]; done))
      · have h1 : decide (x = y) = false := by revert hc; cases decide (x = y) <;> simp
        all_goals ((first | refine end_retE ?_ | refine end_normE ?_); simp only [fin, go_sem])
        exact LeA.of_eq (by rw [hF2, h1, Bool.false_and])
      · have h1 : decide (x = y) = true := by revert hc; cases decide (x = y) <;> simp
        refine ⟨⟨i + 1, by omega, by rw [hF2, h1, Bool.true_and]⟩, by first | (simp only; omega) | omega, ?_⟩
        simp only [updL_nil, updL_cons, delF_top, delF_upd, Nat.reduceEqDiff, reduceIte]
        refine Le.frameS (by first | rfl | (simp only [go_sem]; try rfl)) ?_
        repeat' (first | exact leF_top _ | exact (fun _ => LeR.refl _) | (with_reducible refine leF_sl ?_ ?_) | (refine leF_upd ?_ ?_))
        all_goals (first | exact LeR.top _ | exact LeR.refl _ | (refine LeR.of_eq ?_; (try simp only [go_sem]); try rfl) | ((try simp only [go_sem]); try rfl))
    · have g5 : decide ((i : Int) < (a.length : Int)) = false := decide_eq_false (by omega)
      rw [List.drop_eq_nil_of_le hge, List.drop_eq_nil_of_le (by omega)] at hF
      repeat' (first
       | (with_reducible first | refine t_seq fun K => ?_ | refine t_block ?_ | refine t_scope ?_ | refine t_label ?_ | refine t_skip ?_ | refine t_exit ?_ | refine t_ret ?_ | refine t_k ?_ | refine t_gF ?_ | exact kp_nil | exact Kp.refl _ | exact kp_to | refine kp_cons ?_ | refine kp_arr ?_ | refine kp_app ?_ | refine t_p ?_ | refine t_br (fun hc => ?_) fun hc => ?_)
       | ((with_reducible first | refine t_kE (t_openE ?_) | refine t_kD (t_openD ?_) | refine t_kE ?_ | refine t_kD ?_ | refine t_gS ?_ | refine t_kL ?_ | refine t_kLF ?_ ?_ | refine t_region fun K => ?_ | refine t_cond fun A B => ?_ | refine t_draw (by kernel_rfl) fun K => ?_); (try (first | refine t_hideE fun KL => ?_ | refine t_hideD fun KL => ?_)); simp only [go_sem, geff, kp13, updL_cons, updL_nil, Int.toNat_natCast, g5])
       | ((with_reducible refine kp_skip ?_ ?_); rfl) | simp only [thenQ, blockQ, scopeQ, Nat.reduceEqDiff, reduceIte] | (with_reducible first | refine And.intro ?_ ?_ | intro vr))
      all_goals try (first | (with_reducible assumption) | (intros; (try simp only [Bool.and_eq_true, Bool.or_eq_true, Bool.or_eq_false_iff, Bool.not_eq_true', Bool.not_eq_false', decide_eq_true_eq, decide_eq_false_iff_not, beq_iff_eq, beq_eq_false_iff_ne, bne_iff_ne, bne_eq_false_iff_eq, ne_eq, inI64, List.length_append] at *) <;> omega) | (intros; (with_reducible first | refine impB_ofR ?_ | refine and_ofB ?_ ?_) <;> with_reducible first | assumption | (refine impB_ofR ?_; assumption)) | ((try simp only [Bool.and_eq_true] at vr); simp only [impB, vr, Bool.or_true, Bool.true_or, Bool.and_self, Bool.not_true, Bool.not_false, Bool.and_true]; done))
      all_goals ((first | refine end_retE ?_ | refine end_normE ?_); simp only [fin, go_sem])
      exact LeA.of_eq (by rw [hF]; simp)
  · have g1 : ((a.length : Int) != (b.length : Int)) = true := by rw [bne_iff_ne]; omega
    refine pc_ofR E26_ok mixed (kp13) (rs := [.tmp 4]) Tryd.func13 rfl (by kernel_rfl) (by kernel_rfl) (Nat.le_of_ble_eq_true rfl) ?_
    simp only [initF_cons, initF_nil, Nat.reduceAdd]
    refine t_name fun KF => ?_
    unfold E26
    repeat' (first
     | (with_reducible first | refine t_seq fun K => ?_ | refine t_block ?_ | refine t_scope ?_ | refine t_label ?_ | refine t_skip ?_ | refine t_exit ?_ | refine t_ret ?_ | refine t_k ?_ | refine t_gF ?_ | exact kp_nil | exact Kp.refl _ | exact kp_to | refine kp_cons ?_ | refine kp_arr ?_ | refine kp_app ?_ | refine t_p ?_ | refine t_br (fun hc => ?_) fun hc => ?_)
     | ((with_reducible first | refine t_kE (t_openE ?_) | refine t_kD (t_openD ?_) | refine t_kE ?_ | refine t_kD ?_ | refine t_gS ?_ | refine t_kL ?_ | refine t_kLF ?_ ?_ | refine t_region fun K => ?_ | refine t_cond fun A B => ?_ | refine t_draw (by kernel_rfl) fun K => ?_); (try (first | refine t_hideE fun KL => ?_ | refine t_hideD fun KL => ?_)); simp only [go_sem, geff, kp13, g1])
     | ((with_reducible refine kp_skip ?_ ?_); rfl) | simp only [thenQ, blockQ, scopeQ, Nat.reduceEqDiff, reduceIte] | (with_reducible first | refine And.intro ?_ ?_ | intro vr))
    all_goals ((first | refine end_retE ?_ | refine end_normE ?_); simp only [fin, go_sem])
    refine LeA.of_eq ?_
    rw [decide_eq_false]
    intro h; rw [h] at hl; exact hl rfl
noncomputable def con13 : PCon Tryd.prog where
  f := 13
  c := fun
    | [xa, xb] => match tkOf xa, tkOf xb with | some a, some b => some (a.length ≤ 1000000000, .lit (.bool (decide (a = b)))) | _, _ => none
    | _ => none
  ok := by
    intro args p r hc hp
    split at hc
    · split at hc
      · rename_i ha hb
        cases hc
        exact PC.weak (same_pc hp) ⟨tkOf_le ha, tkOf_le hb, trivial⟩
      · cases hc
    · cases hc
  fk := fk13
theorem con13_f : con13.f = 13 := rfl
theorem con13_c {xa : AV} {xb : AV} : con13.c [xa, xb] = match tkOf xa, tkOf xb with | some a, some b => some (a.length ≤ 1000000000, .lit (.bool (decide (a = b)))) | _, _ => none := rfl
theorem theirs_pc {l : List Tok} (hl : l.length ≤ 1000000000) : PC Tryd.prog 14 [.sl false 4 (toks l)] (.sl false 4 (toks l)) := by
  refine pc_ofR E26_ok mixed (kp14) (rs := [.tmp 2]) Tryd.func14 rfl (by kernel_rfl) (by kernel_rfl) (Nat.le_of_ble_eq_true rfl) ?_
  simp only [initF_cons, initF_nil, Nat.reduceAdd]
  refine t_name fun KF => ?_
  unfold E26
  repeat' (first
   | (with_reducible first | refine t_seq fun K => ?_ | refine t_block ?_ | refine t_scope ?_ | refine t_label ?_ | refine t_skip ?_ | refine t_exit ?_ | refine t_ret ?_ | refine t_k ?_ | refine t_gF ?_ | exact kp_nil | exact Kp.refl _ | exact kp_to | refine kp_cons ?_ | refine kp_arr ?_ | refine kp_app ?_ | refine t_p ?_ | refine t_br (fun hc => ?_) fun hc => ?_)
   | ((with_reducible first | refine t_kE (t_openE ?_) | refine t_kD (t_openD ?_) | refine t_kE ?_ | refine t_kD ?_ | refine t_gS ?_ | refine t_kL ?_ | refine t_kLF ?_ ?_ | refine t_region fun K => ?_ | refine t_cond fun A B => ?_ | refine t_draw (by kernel_rfl) fun K => ?_); (try (first | refine t_hideE fun KL => ?_ | refine t_hideD fun KL => ?_)); simp only [go_sem, geff, kp14])
   | ((with_reducible refine kp_skip ?_ ?_); rfl) | simp only [thenQ, blockQ, scopeQ, Nat.reduceEqDiff, reduceIte] | (with_reducible first | refine And.intro ?_ ?_ | intro vr))
  all_goals try (first | (with_reducible assumption) | (intros; (try simp only [Bool.and_eq_true, Bool.or_eq_true, Bool.or_eq_false_iff, Bool.not_eq_true', Bool.not_eq_false', decide_eq_true_eq, decide_eq_false_iff_not, beq_iff_eq, beq_eq_false_iff_ne, bne_iff_ne, bne_eq_false_iff_eq, ne_eq, inI64, List.length_append] at *) <;> omega) | (intros; (with_reducible first | refine impB_ofR ?_ | refine and_ofB ?_ ?_) <;> with_reducible first | assumption | (refine impB_ofR ?_; assumption)) | ((try simp only [Bool.and_eq_true] at vr); simp only [impB, vr, Bool.or_true, Bool.true_or, Bool.and_self, Bool.not_true, Bool.not_false, Bool.and_true]; done))
  refine t_loopF (ι := { p : Nat × Nat // p.1 ≤ l.length }) (fun i => [(4, .lit (.int .i64 i.1.1)), (3, .arr 0 i.1.2)]) (fun i => [.arr 41 4 (toks (l.take i.1.1)) i.1.2 false]) (fun i => l.length - i.1.1) ⟨(0, 0), by simp⟩ ?_ ?_
  · refine (le_nil 3 41 4 rfl).trans ?_
    simp only [updL_nil, updL_cons, delF_top, delF_upd, Nat.reduceEqDiff, reduceIte]
    refine Le.frameS (by first | rfl | (simp only [go_sem]; try rfl)) ?_
    repeat' (first | exact leF_top _ | exact (fun _ => LeR.refl _) | (with_reducible refine leF_sl ?_ ?_) | (refine leF_upd ?_ ?_))
    all_goals (first | exact LeR.top _ | exact LeR.refl _ | (refine LeR.of_eq ?_; (try simp only [go_sem]); try rfl) | ((try simp only [go_sem]); try rfl))
  rintro ⟨⟨i, ver⟩, hi⟩ K0
  simp only at hi
  rcases Nat.lt_or_ge i l.length with hlt | hge
  · have g5 : decide ((i : Int) < (l.length : Int)) = true := decide_eq_true (by omega)
    have hs : l.take (i + 1) = l.take i ++ [⟨(l.getD i ⟨0, [], 0, 0⟩).k, (l.getD i ⟨0, [], 0, 0⟩).t, (l.getD i ⟨0, [], 0, 0⟩).line, (l.getD i ⟨0, [], 0, 0⟩).at_⟩] := by
      rw [List.take_add_one, List.getD_eq_getElem?_getD, List.getElem?_eq_getElem hlt]; rfl
    repeat' (first
     | (with_reducible first | refine t_seq fun K => ?_ | refine t_block ?_ | refine t_scope ?_ | refine t_label ?_ | refine t_skip ?_ | refine t_exit ?_ | refine t_ret ?_ | refine t_k ?_ | refine t_gF ?_ | exact kp_nil | exact Kp.refl _ | exact kp_to | refine kp_cons ?_ | refine kp_arr ?_ | refine kp_app ?_ | refine t_p ?_ | refine t_br (fun hc => ?_) fun hc => ?_)
     | ((with_reducible first | refine t_kE (t_openE ?_) | refine t_kD (t_openD ?_) | refine t_kE ?_ | refine t_kD ?_ | refine t_gS ?_ | refine t_kL ?_ | refine t_kLF ?_ ?_ | refine t_region fun K => ?_ | refine t_cond fun A B => ?_ | refine t_draw (by kernel_rfl) fun K => ?_); (try (first | refine t_hideE fun KL => ?_ | refine t_hideD fun KL => ?_)); simp only [go_sem, geff, kp14, updL_cons, updL_nil, Int.toNat_natCast, g5, tokV])
     | ((with_reducible refine kp_skip ?_ ?_); rfl) | simp only [thenQ, blockQ, scopeQ, Nat.reduceEqDiff, reduceIte] | (with_reducible first | refine And.intro ?_ ?_ | intro vr))
    all_goals try (first | (with_reducible assumption) | (intros; (try simp only [Bool.and_eq_true, Bool.or_eq_true, Bool.or_eq_false_iff, Bool.not_eq_true', Bool.not_eq_false', decide_eq_true_eq, decide_eq_false_iff_not, beq_iff_eq, beq_eq_false_iff_ne, bne_iff_ne, bne_eq_false_iff_eq, ne_eq, inI64, List.length_append, List.length_take] at *) <;> omega) | (intros; (with_reducible first | refine impB_ofR ?_ | refine and_ofB ?_ ?_) <;> with_reducible first | assumption | (refine impB_ofR ?_; assumption)) | ((try simp only [Bool.and_eq_true] at vr); simp only [impB, vr, Bool.or_true, Bool.true_or, Bool.and_self, Bool.not_true, Bool.not_false, Bool.and_true]; done))
    rw [← hs]
    refine ⟨⟨(i + 1, ver + 1), by simp only; omega⟩, by first | (simp only; omega) | omega, ?_⟩
    simp only [updL_nil, updL_cons, delF_top, delF_upd, Nat.reduceEqDiff, reduceIte]
    refine Le.frameS (by first | rfl | (simp only [go_sem]; try rfl)) ?_
    repeat' (first | exact leF_top _ | exact (fun _ => LeR.refl _) | (with_reducible refine leF_sl ?_ ?_) | (refine leF_upd ?_ ?_))
    all_goals (first | exact LeR.top _ | exact LeR.refl _ | (refine LeR.of_eq ?_; (try simp only [go_sem]); try rfl) | ((try simp only [go_sem]); try rfl))
  · have g5 : decide ((i : Int) < (l.length : Int)) = false := decide_eq_false (by omega)
    have e : i = l.length := by omega
    subst e
    rw [List.take_length] at *
    repeat' (first
     | (with_reducible first | refine t_seq fun K => ?_ | refine t_block ?_ | refine t_scope ?_ | refine t_label ?_ | refine t_skip ?_ | refine t_exit ?_ | refine t_ret ?_ | refine t_k ?_ | refine t_gF ?_ | exact kp_nil | exact Kp.refl _ | exact kp_to | refine kp_cons ?_ | refine kp_arr ?_ | refine kp_app ?_ | refine t_p ?_ | refine t_br (fun hc => ?_) fun hc => ?_)
     | ((with_reducible first | refine t_kE (t_openE ?_) | refine t_kD (t_openD ?_) | refine t_kE ?_ | refine t_kD ?_ | refine t_gS ?_ | refine t_kL ?_ | refine t_kLF ?_ ?_ | refine t_region fun K => ?_ | refine t_cond fun A B => ?_ | refine t_draw (by kernel_rfl) fun K => ?_); (try (first | refine t_hideE fun KL => ?_ | refine t_hideD fun KL => ?_)); simp only [go_sem, geff, kp14, updL_cons, updL_nil, Int.toNat_natCast, g5])
     | ((with_reducible refine kp_skip ?_ ?_); rfl) | simp only [thenQ, blockQ, scopeQ, Nat.reduceEqDiff, reduceIte] | (with_reducible first | refine And.intro ?_ ?_ | intro vr))
    all_goals try (first | (with_reducible assumption) | (intros; (try simp only [Bool.and_eq_true, Bool.or_eq_true, Bool.or_eq_false_iff, Bool.not_eq_true', Bool.not_eq_false', decide_eq_true_eq, decide_eq_false_iff_not, beq_iff_eq, beq_eq_false_iff_ne, bne_iff_ne, bne_eq_false_iff_eq, ne_eq, inI64, List.length_append] at *) <;> omega) | (intros; (with_reducible first | refine impB_ofR ?_ | refine and_ofB ?_ ?_) <;> with_reducible first | assumption | (refine impB_ofR ?_; assumption)) | ((try simp only [Bool.and_eq_true] at vr); simp only [impB, vr, Bool.or_true, Bool.true_or, Bool.and_self, Bool.not_true, Bool.not_false, Bool.and_true]; done))
    all_goals ((first | refine end_retE ?_ | refine end_normE ?_); simp only [fin, go_sem])
    exact LeA.refl _
noncomputable def con14 : PCon Tryd.prog where
  f := 14
  c := fun
    | [xl] => match tkOf xl with | some l => some (l.length ≤ 1000000000, .sl false 4 (toks l)) | _ => none
    | _ => none
  ok := by
    intro args p r hc hp
    split at hc
    · split at hc
      · rename_i hl
        cases hc
        exact PC.weak (theirs_pc hp) ⟨tkOf_le hl, trivial⟩
      · cases hc
    · cases hc
  fk := fk14
theorem con14_f : con14.f = 14 := rfl
theorem con14_c {xl : AV} : con14.c [xl] = match tkOf xl with | some l => some (l.length ≤ 1000000000, .sl false 4 (toks l)) | _ => none := rfl
theorem lex1 : lexS [100, 101, 102, 32, 102, 40, 120, 41, 32, 61, 32, 45, 120, 32, 47, 47, 32, 115, 105, 103, 110] = ([⟨2, [100, 101, 102], 1, 0⟩, ⟨1, [102], 1, 4⟩, ⟨4, [40], 1, 5⟩, ⟨1, [120], 1, 6⟩, ⟨4, [41], 1, 7⟩, ⟨4, [61], 1, 9⟩, ⟨4, [45], 1, 11⟩, ⟨1, [120], 1, 12⟩], 0, 0) := by kernel_rfl
theorem lex2 : lexS [97, 60, 61, 61, 98] = ([⟨1, [97], 1, 0⟩, ⟨4, [60, 61], 1, 1⟩, ⟨4, [61], 1, 3⟩, ⟨1, [98], 1, 4⟩], 0, 0) := by kernel_rfl
noncomputable def E27 : Env := envJ (P := Tryd.prog) jk zer (fun _ => false) (fun _ => false) [con11, con20] []
theorem E27_ok : EnvOk Tryd.prog E27 := envJOk zer_ok
theorem tk0 : toks [] = [] := rfl
theorem tk1 (t : Tok) (l : List Tok) : toks (t :: l) = tokV t :: toks l := rfl
theorem nm1 : nameS [120, 49] = true := by kernel_rfl
theorem nm2 : nameS [108, 101, 116] = false := by kernel_rfl
theorem awake_pc : PC Tryd.prog 10 [] (.lit (.bool true)) := by
  refine pc_ofR E27_ok mixed (kp10) (rs := [.tmp 0]) Tryd.func10 rfl (by kernel_rfl) (by kernel_rfl) (Nat.le_of_ble_eq_true rfl) ?_
  simp only [initF_cons, initF_nil, Nat.reduceAdd]
  refine t_name fun KF => ?_
  unfold E27
  repeat' (first
   | (with_reducible first | refine t_seq fun K => ?_ | refine t_block ?_ | refine t_scope ?_ | refine t_label ?_ | refine t_skip ?_ | refine t_exit ?_ | refine t_ret ?_ | refine t_k ?_ | refine t_gF ?_ | exact kp_nil | exact Kp.refl _ | exact kp_to | refine kp_cons ?_ | refine kp_arr ?_ | refine kp_app ?_ | refine t_p ?_ | refine t_br (fun hc => ?_) fun hc => ?_)
   | ((with_reducible first | refine t_kE (t_openE ?_) | refine t_kD (t_openD ?_) | refine t_kE ?_ | refine t_kD ?_ | refine t_gS ?_ | refine t_kL ?_ | refine t_kLF ?_ ?_ | refine t_region fun K => ?_ | refine t_cond fun A B => ?_ | refine t_draw (by kernel_rfl) fun K => ?_); (try (first | refine t_hideE fun KL => ?_ | refine t_hideD fun KL => ?_)); simp only [go_sem, geff, kp10, lexV, lex1, lex2, nm1, nm2, tk0, tk1, tokV])
   | ((with_reducible refine kp_skip ?_ ?_); rfl) | simp only [thenQ, blockQ, scopeQ, Nat.reduceEqDiff, reduceIte] | (with_reducible first | refine And.intro ?_ ?_ | intro vr))
  all_goals try (first | (with_reducible assumption) | (intros; (try simp only [Bool.and_eq_true, Bool.or_eq_true, Bool.or_eq_false_iff, Bool.not_eq_true', Bool.not_eq_false', decide_eq_true_eq, decide_eq_false_iff_not, beq_iff_eq, beq_eq_false_iff_ne, bne_iff_ne, bne_eq_false_iff_eq, ne_eq, inI64, List.length_append] at *) <;> omega) | (intros; (with_reducible first | refine impB_ofR ?_ | refine and_ofB ?_ ?_) <;> with_reducible first | assumption | (refine impB_ofR ?_; assumption)) | ((try simp only [Bool.and_eq_true] at vr); simp only [impB, vr, Bool.or_true, Bool.true_or, Bool.and_self, Bool.not_true, Bool.not_false, Bool.and_true]; done))
  all_goals ((first | refine end_retE ?_ | refine end_normE ?_); simp only [fin, go_sem])
  exact LeA.of_eq rfl
noncomputable def con10 : PCon Tryd.prog where
  f := 10
  c := fun
    | [] => some (True, .lit (.bool true))
    | _ => none
  ok := by
    intro args p r hc hp
    split at hc
    · cases hc; exact awake_pc
    · cases hc
  fk := fk10
theorem con10_f : con10.f = 10 := rfl
theorem con10_c : con10.c [] = some (True, .lit (.bool true)) := rfl
attribute [go_sem] con13_f con13_c con14_f con14_c con10_f con10_c
theorem lexG_len : ∀ (n : Nat) (l : List UInt8) (a b : Int) (acc : List Tok), acc.length ≤ 4000 → (lexG n l a b acc).1.length ≤ 4000
  | 0, _, _, _, _, _ => by simp [lexG]
  | n + 1, l, a, b, acc, h => by
    rw [lexG_step]
    split
    · exact h
    · split
      · simp
      · split
        · simp
        · exact lexG_len n _ _ _ _ (by simp; omega)
theorem lexS_len (l : List UInt8) : (lexS l).1.length ≤ 4000 := by
  unfold lexS
  split
  · simp
  · exact lexG_len _ _ _ _ _ (by simp)
noncomputable def E28 : Env := envJ (P := Tryd.prog) jk zer (fun _ => false) (fun _ => false) [con10, con11, con12, con13, con14] []
theorem E28_ok : EnvOk Tryd.prog E28 := envJOk zer_ok
theorem law3 {s : ByteArray} : PC Tryd.prog 3 [.lit (.string s)] (.lit (.bool true)) := by
  obtain ⟨l, rfl⟩ := bs_ex s
  have hl := lexS_len l
  generalize hq : lexS l = q at hl
  obtain ⟨ts, a, e⟩ := q
  simp only at hl
  have d1 : decide (ts = ts) = true := decide_eq_true rfl
  have d2 : (a == a) = true := beq_self_eq_true a
  have d3 : (e == e) = true := beq_self_eq_true e
  refine pc_ofR E28_ok mixed (kp3) (rs := [.tmp 2]) Tryd.func3 rfl (by kernel_rfl) (by kernel_rfl) (Nat.le_of_ble_eq_true rfl) ?_
  simp only [initF_cons, initF_nil, Nat.reduceAdd]
  refine t_name fun KF => ?_
  unfold E28
  repeat' (first
   | (with_reducible first | refine t_seq fun K => ?_ | refine t_block ?_ | refine t_scope ?_ | refine t_label ?_ | refine t_skip ?_ | refine t_exit ?_ | refine t_ret ?_ | refine t_k ?_ | refine t_gF ?_ | exact kp_nil | exact Kp.refl _ | exact kp_to | refine kp_cons ?_ | refine kp_arr ?_ | refine kp_app ?_ | refine t_p ?_ | refine t_br (fun hc => ?_) fun hc => ?_)
   | ((with_reducible first | refine t_kE (t_openE ?_) | refine t_kD (t_openD ?_) | refine t_kE ?_ | refine t_kD ?_ | refine t_gS ?_ | refine t_kL ?_ | refine t_kLF ?_ ?_ | refine t_region fun K => ?_ | refine t_cond fun A B => ?_ | refine t_draw (by kernel_rfl) fun K => ?_); (try (first | refine t_hideE fun KL => ?_ | refine t_hideD fun KL => ?_)); simp only [go_sem, geff, kp3, hq, lexV, d1, d2, d3])
   | ((with_reducible refine kp_skip ?_ ?_); rfl) | simp only [thenQ, blockQ, scopeQ, Nat.reduceEqDiff, reduceIte] | (with_reducible first | refine And.intro ?_ ?_ | intro vr))
  all_goals try (first | (with_reducible assumption) | (intros; (try simp only [Bool.and_eq_true, Bool.or_eq_true, Bool.or_eq_false_iff, Bool.not_eq_true', Bool.not_eq_false', decide_eq_true_eq, decide_eq_false_iff_not, beq_iff_eq, beq_eq_false_iff_ne, bne_iff_ne, bne_eq_false_iff_eq, ne_eq, inI64, List.length_append] at *) <;> omega) | (intros; (with_reducible first | refine impB_ofR ?_ | refine and_ofB ?_ ?_) <;> with_reducible first | assumption | (refine impB_ofR ?_; assumption)) | ((try simp only [Bool.and_eq_true] at vr); simp only [impB, vr, Bool.or_true, Bool.true_or, Bool.and_self, Bool.not_true, Bool.not_false, Bool.and_true]; done))
  all_goals ((first | refine end_retE ?_ | refine end_normE ?_); simp only [fin, go_sem])
  all_goals exact LeA.refl _
/-- A text again and again. -/
def rep (w : List UInt8) : Nat → List UInt8
  | 0 => []
  | n + 1 => rep w n ++ w
theorem rep_len (w : List UInt8) (n : Nat) : (rep w n).length = n * w.length := by
  induction n with
  | zero => simp [rep]
  | succ n ih => rw [rep, List.length_append, ih, Nat.succ_mul]
set_option maxHeartbeats 1000000 in
theorem law4 {s : ByteArray} {n : Int} (hn : 0 ≤ n ∧ n < 65536) : PC Tryd.prog 4 [.lit (.string s), .lit (.int .u16 n)] (.lit (.bool true)) := by
  obtain ⟨w, rfl⟩ := bs_ex s
  have hm : 0 ≤ n.tmod 8001 ∧ n.tmod 8001 < 8001 := by rw [Int.tmod_eq_emod_of_nonneg hn.1]; omega
  have wn : IntKind.i64.wrap n = n := wrap_i64 (by unfold inI64; omega)
  obtain ⟨k, hk⟩ : ∃ k : Nat, n.tmod 8001 = (k : Int) := ⟨(n.tmod 8001).toNat, by omega⟩
  rw [hk] at hm
  have hmul : w.length ≤ 60 → w.length * k ≤ 480000 := fun h => by
    have := Nat.mul_le_mul h (show k ≤ 8000 by omega)
    omega
  have hin : (!decide ((w.length : Int) > 60)) = true → inI64 ((w.length : Int) * (k : Int)) := fun h => by
    have h := hmul (by simp at h; omega)
    unfold inI64
    rw [← Int.natCast_mul]
    generalize w.length * k = m at h
    omega
  have n80 : (8001 : Int) ≠ 0 := by decide
  cases h1 : (decide ((w.length : Int) > 60) || decide ((w.length : Int) * (k : Int) > 30000)) with
  | true =>
    refine pc_ofR E28_ok mixed (kp4) (rs := [.tmp 4]) Tryd.func4 rfl (by kernel_rfl) (by kernel_rfl) (Nat.le_of_ble_eq_true rfl) ?_
    simp only [initF_cons, initF_nil, Nat.reduceAdd]
    refine t_name fun KF => ?_
    unfold E28
    repeat' (first
     | (with_reducible first | refine t_seq fun K => ?_ | refine t_block ?_ | refine t_scope ?_ | refine t_label ?_ | refine t_skip ?_ | refine t_exit ?_ | refine t_ret ?_ | refine t_k ?_ | refine t_gF ?_ | exact kp_nil | exact Kp.refl _ | exact kp_to | refine kp_cons ?_ | refine kp_arr ?_ | refine kp_app ?_ | refine t_p ?_ | refine t_br (fun hc => ?_) fun hc => ?_)
     | ((with_reducible first | refine t_kE (t_openE ?_) | refine t_kD (t_openD ?_) | refine t_kE ?_ | refine t_kD ?_ | refine t_gS ?_ | refine t_kL ?_ | refine t_kLF ?_ ?_ | refine t_region fun K => ?_ | refine t_cond fun A B => ?_ | refine t_draw (by kernel_rfl) fun K => ?_); (try (first | refine t_hideE fun KL => ?_ | refine t_hideD fun KL => ?_)); simp only [go_sem, geff, kp4, wn, hk, h1])
     | ((with_reducible refine kp_skip ?_ ?_); rfl) | simp only [thenQ, blockQ, scopeQ, Nat.reduceEqDiff, reduceIte] | (with_reducible first | refine And.intro ?_ ?_ | intro vr))
    all_goals first | exact hin ‹_› | skip
    all_goals try (first | (with_reducible assumption) | (intros; (try simp only [Bool.and_eq_true, Bool.or_eq_true, Bool.or_eq_false_iff, Bool.not_eq_true', Bool.not_eq_false', decide_eq_true_eq, decide_eq_false_iff_not, beq_iff_eq, beq_eq_false_iff_ne, bne_iff_ne, bne_eq_false_iff_eq, ne_eq, inI64, List.length_append] at *) <;> omega) | (intros; (with_reducible first | refine impB_ofR ?_ | refine and_ofB ?_ ?_) <;> with_reducible first | assumption | (refine impB_ofR ?_; assumption)) | ((try simp only [Bool.and_eq_true] at vr); simp only [impB, vr, Bool.or_true, Bool.true_or, Bool.and_self, Bool.not_true, Bool.not_false, Bool.and_true]; done))
    all_goals ((first | refine end_retE ?_ | refine end_normE ?_); simp only [fin, go_sem])
    exact LeA.refl _
  | false =>
    have h1' := h1
    simp only [Bool.or_eq_false_iff, decide_eq_false_iff_not] at h1'
    have h2 : w.length * k ≤ 30000 := by
      have := h1'.2
      rw [← Int.natCast_mul] at this
      generalize w.length * k = m at this ⊢
      omega
    have hlen : ∀ i, i ≤ k → (rep w i).length ≤ 30000 := fun i hi => by
      rw [rep_len, Nat.mul_comm]
      exact Nat.le_trans (Nat.mul_le_mul_left _ hi) h2
    refine pc_ofR E28_ok mixed (kp4) (rs := [.tmp 4]) Tryd.func4 rfl (by kernel_rfl) (by kernel_rfl) (Nat.le_of_ble_eq_true rfl) ?_
    simp only [initF_cons, initF_nil, Nat.reduceAdd]
    refine t_name fun KF => ?_
    unfold E28
    repeat' (first
     | (with_reducible first | refine t_seq fun K => ?_ | refine t_block ?_ | refine t_scope ?_ | refine t_label ?_ | refine t_skip ?_ | refine t_exit ?_ | refine t_ret ?_ | refine t_k ?_ | refine t_gF ?_ | exact kp_nil | exact Kp.refl _ | exact kp_to | refine kp_cons ?_ | refine kp_arr ?_ | refine kp_app ?_ | refine t_p ?_ | refine t_br (fun hc => ?_) fun hc => ?_)
     | ((with_reducible first | refine t_kE (t_openE ?_) | refine t_kD (t_openD ?_) | refine t_kE ?_ | refine t_kD ?_ | refine t_gS ?_ | refine t_kL ?_ | refine t_kLF ?_ ?_ | refine t_region fun K => ?_ | refine t_cond fun A B => ?_ | refine t_draw (by kernel_rfl) fun K => ?_); (try (first | refine t_hideE fun KL => ?_ | refine t_hideD fun KL => ?_)); simp only [go_sem, geff, kp4, wn, hk, h1])
     | ((with_reducible refine kp_skip ?_ ?_); rfl) | simp only [thenQ, blockQ, scopeQ, Nat.reduceEqDiff, reduceIte] | (with_reducible first | refine And.intro ?_ ?_ | intro vr))
    all_goals first | exact hin ‹_› | skip
    all_goals try (first | (with_reducible assumption) | (intros; (try simp only [Bool.and_eq_true, Bool.or_eq_true, Bool.or_eq_false_iff, Bool.not_eq_true', Bool.not_eq_false', decide_eq_true_eq, decide_eq_false_iff_not, beq_iff_eq, beq_eq_false_iff_ne, bne_iff_ne, bne_eq_false_iff_eq, ne_eq, inI64, List.length_append] at *) <;> omega) | (intros; (with_reducible first | refine impB_ofR ?_ | refine and_ofB ?_ ?_) <;> with_reducible first | assumption | (refine impB_ofR ?_; assumption)) | ((try simp only [Bool.and_eq_true] at vr); simp only [impB, vr, Bool.or_true, Bool.true_or, Bool.and_self, Bool.not_true, Bool.not_false, Bool.and_true]; done))
    refine t_loopF (ι := { i : Nat // i ≤ k }) (fun i => [(7, .lit (.int .i64 i.1)), (6, .lit (.string (bs (rep w i.1))))]) (fun i => []) (fun i => k - i.1) ⟨0, by omega⟩ ?_ ?_
    · simp only [updL_nil, updL_cons, delF_top, delF_upd, Nat.reduceEqDiff, reduceIte]
      refine Le.frameS (by first | rfl | (simp only [go_sem]; try rfl)) ?_
      repeat' (first | exact leF_top _ | exact (fun _ => LeR.refl _) | (with_reducible refine leF_sl ?_ ?_) | (refine leF_upd ?_ ?_))
      all_goals (first | exact LeR.top _ | exact LeR.refl _ | (refine LeR.of_eq ?_; (try simp only [go_sem]); try rfl) | ((try simp only [go_sem]); try rfl))
    rintro ⟨i, hi⟩ K0
    have hli := hlen i hi
    rcases Nat.lt_or_ge i k with hlt | hge
    · have g5 : decide ((i : Int) < (k : Int)) = true := decide_eq_true (by omega)
      have hs : rep w i ++ w = rep w (i + 1) := rfl
      repeat' (first
       | (with_reducible first | refine t_seq fun K => ?_ | refine t_block ?_ | refine t_scope ?_ | refine t_label ?_ | refine t_skip ?_ | refine t_exit ?_ | refine t_ret ?_ | refine t_k ?_ | refine t_gF ?_ | exact kp_nil | exact Kp.refl _ | exact kp_to | refine kp_cons ?_ | refine kp_arr ?_ | refine kp_app ?_ | refine t_p ?_ | refine t_br (fun hc => ?_) fun hc => ?_)
       | ((with_reducible first | refine t_kE (t_openE ?_) | refine t_kD (t_openD ?_) | refine t_kE ?_ | refine t_kD ?_ | refine t_gS ?_ | refine t_kL ?_ | refine t_kLF ?_ ?_ | refine t_region fun K => ?_ | refine t_cond fun A B => ?_ | refine t_draw (by kernel_rfl) fun K => ?_); (try (first | refine t_hideE fun KL => ?_ | refine t_hideD fun KL => ?_)); simp only [go_sem, geff, kp4, updL_cons, updL_nil, Int.toNat_natCast, g5, hs])
       | ((with_reducible refine kp_skip ?_ ?_); rfl) | simp only [thenQ, blockQ, scopeQ, Nat.reduceEqDiff, reduceIte] | (with_reducible first | refine And.intro ?_ ?_ | intro vr))
      all_goals try (first | (with_reducible assumption) | (intros; (try simp only [Bool.and_eq_true, Bool.or_eq_true, Bool.or_eq_false_iff, Bool.not_eq_true', Bool.not_eq_false', decide_eq_true_eq, decide_eq_false_iff_not, beq_iff_eq, beq_eq_false_iff_ne, bne_iff_ne, bne_eq_false_iff_eq, ne_eq, inI64, List.length_append] at *) <;> omega) | (intros; (with_reducible first | refine impB_ofR ?_ | refine and_ofB ?_ ?_) <;> with_reducible first | assumption | (refine impB_ofR ?_; assumption)) | ((try simp only [Bool.and_eq_true] at vr); simp only [impB, vr, Bool.or_true, Bool.true_or, Bool.and_self, Bool.not_true, Bool.not_false, Bool.and_true]; done))
      refine ⟨⟨i + 1, by omega⟩, by first | (simp only; omega) | omega, ?_⟩
      simp only [updL_nil, updL_cons, delF_top, delF_upd, Nat.reduceEqDiff, reduceIte]
      refine Le.frameS (by first | rfl | (simp only [go_sem]; try rfl)) ?_
      repeat' (first | exact leF_top _ | exact (fun _ => LeR.refl _) | (with_reducible refine leF_sl ?_ ?_) | (refine leF_upd ?_ ?_))
      all_goals (first | exact LeR.top _ | exact LeR.refl _ | (refine LeR.of_eq ?_; (try simp only [go_sem]); try rfl) | ((try simp only [go_sem]); try rfl))
    · have g5 : decide ((i : Int) < (k : Int)) = false := decide_eq_false (by omega)
      have hl := lexS_len (rep w i)
      generalize hq : lexS (rep w i) = q at hl
      obtain ⟨ts, a, e⟩ := q
      simp only at hl
      have d1 : decide (ts = ts) = true := decide_eq_true rfl
      have d2 : (a == a) = true := beq_self_eq_true a
      have d3 : (e == e) = true := beq_self_eq_true e
      repeat' (first
       | (with_reducible first | refine t_seq fun K => ?_ | refine t_block ?_ | refine t_scope ?_ | refine t_label ?_ | refine t_skip ?_ | refine t_exit ?_ | refine t_ret ?_ | refine t_k ?_ | refine t_gF ?_ | exact kp_nil | exact Kp.refl _ | exact kp_to | refine kp_cons ?_ | refine kp_arr ?_ | refine kp_app ?_ | refine t_p ?_ | refine t_br (fun hc => ?_) fun hc => ?_)
       | ((with_reducible first | refine t_kE (t_openE ?_) | refine t_kD (t_openD ?_) | refine t_kE ?_ | refine t_kD ?_ | refine t_gS ?_ | refine t_kL ?_ | refine t_kLF ?_ ?_ | refine t_region fun K => ?_ | refine t_cond fun A B => ?_ | refine t_draw (by kernel_rfl) fun K => ?_); (try (first | refine t_hideE fun KL => ?_ | refine t_hideD fun KL => ?_)); simp only [go_sem, geff, kp4, updL_cons, updL_nil, Int.toNat_natCast, g5, hq, lexV, d1, d2, d3])
       | ((with_reducible refine kp_skip ?_ ?_); rfl) | simp only [thenQ, blockQ, scopeQ, Nat.reduceEqDiff, reduceIte] | (with_reducible first | refine And.intro ?_ ?_ | intro vr))
      all_goals try (first | (with_reducible assumption) | (intros; (try simp only [Bool.and_eq_true, Bool.or_eq_true, Bool.or_eq_false_iff, Bool.not_eq_true', Bool.not_eq_false', decide_eq_true_eq, decide_eq_false_iff_not, beq_iff_eq, beq_eq_false_iff_ne, bne_iff_ne, bne_eq_false_iff_eq, ne_eq, inI64, List.length_append] at *) <;> omega) | (intros; (with_reducible first | refine impB_ofR ?_ | refine and_ofB ?_ ?_) <;> with_reducible first | assumption | (refine impB_ofR ?_; assumption)) | ((try simp only [Bool.and_eq_true] at vr); simp only [impB, vr, Bool.or_true, Bool.true_or, Bool.and_self, Bool.not_true, Bool.not_false, Bool.and_true]; done))
      all_goals ((first | refine end_retE ?_ | refine end_normE ?_); simp only [fin, go_sem])
      exact LeA.refl _
noncomputable def E29 : Env := envJ (P := Tryd.prog) jk zer (fun _ => false) (fun _ => false) [con10, con16, con17, con18, con19, con20, con21, con22, con23] []
theorem E29_ok : EnvOk Tryd.prog E29 := envJOk zer_ok
theorem law8 {s : ByteArray} : PC Tryd.prog 8 [.lit (.string s)] (.lit (.bool true)) := by
  obtain ⟨l, rfl⟩ := bs_ex s
  have d0 : ∀ b : Bool, (b == b) = true := fun b => beq_self_eq_true b
  have d2 : ∀ a : Int, (a == a) = true := fun a => beq_self_eq_true a
  refine pc_ofR E29_ok mixed (kp8) (rs := [.tmp 2]) Tryd.func8 rfl (by kernel_rfl) (by kernel_rfl) (Nat.le_of_ble_eq_true rfl) ?_
  simp only [initF_cons, initF_nil, Nat.reduceAdd]
  refine t_name fun KF => ?_
  unfold E29
  repeat' (first
   | (with_reducible first | refine t_seq fun K => ?_ | refine t_block ?_ | refine t_scope ?_ | refine t_label ?_ | refine t_skip ?_ | refine t_exit ?_ | refine t_ret ?_ | refine t_k ?_ | refine t_gF ?_ | exact kp_nil | exact Kp.refl _ | exact kp_to | refine kp_cons ?_ | refine kp_arr ?_ | refine kp_app ?_ | refine t_p ?_ | refine t_br (fun hc => ?_) fun hc => ?_)
   | ((with_reducible first | refine t_kE (t_openE ?_) | refine t_kD (t_openD ?_) | refine t_kE ?_ | refine t_kD ?_ | refine t_gS ?_ | refine t_kL ?_ | refine t_kLF ?_ ?_ | refine t_region fun K => ?_ | refine t_cond fun A B => ?_ | refine t_draw (by kernel_rfl) fun K => ?_); (try (first | refine t_hideE fun KL => ?_ | refine t_hideD fun KL => ?_)); simp only [go_sem, geff, kp8, numV, d0, d2])
   | ((with_reducible refine kp_skip ?_ ?_); rfl) | simp only [thenQ, blockQ, scopeQ, Nat.reduceEqDiff, reduceIte] | (with_reducible first | refine And.intro ?_ ?_ | intro vr))
  all_goals try (first | (with_reducible assumption) | (intros; (try simp only [Bool.and_eq_true, Bool.or_eq_true, Bool.or_eq_false_iff, Bool.not_eq_true', Bool.not_eq_false', decide_eq_true_eq, decide_eq_false_iff_not, beq_iff_eq, beq_eq_false_iff_ne, bne_iff_ne, bne_eq_false_iff_eq, ne_eq, inI64, List.length_append] at *) <;> omega) | (intros; (with_reducible first | refine impB_ofR ?_ | refine and_ofB ?_ ?_) <;> with_reducible first | assumption | (refine impB_ofR ?_; assumption)) | ((try simp only [Bool.and_eq_true] at vr); simp only [impB, vr, Bool.or_true, Bool.true_or, Bool.and_self, Bool.not_true, Bool.not_false, Bool.and_true]; done))
  all_goals ((first | refine end_retE ?_ | refine end_normE ?_); simp only [fin, go_sem])
  all_goals exact LeA.refl _
end Go.Proofs.YtkkamgblakhmiaaDoor

/- The laws on Lex, on long texts and on words. -/
namespace Go.Proofs.YtkkamgblakhmiaaDoor
open Go Go.Fw
set_option maxRecDepth 20000

theorem law3_law : ∀ xs, ShL Tryd.prog Tryd.f3.params.toList xs → PC Tryd.prog 3 xs (.lit (.bool true))
  | [x], h => by
    obtain ⟨s, rfl, _⟩ := shv_str u9 h.1
    exact law3
  | [], h => h.elim
  | _ :: _ :: _, h => h.2.elim
theorem law8_law : ∀ xs, ShL Tryd.prog Tryd.f8.params.toList xs → PC Tryd.prog 8 xs (.lit (.bool true))
  | [x], h => by
    obtain ⟨s, rfl, _⟩ := shv_str u9 h.1
    exact law8
  | [], h => h.elim
  | _ :: _ :: _, h => h.2.elim
theorem wf_u16 {n : Int} (w : (Lit.int .u16 n).wf = true) : 0 ≤ n ∧ n ≤ 65535 := by simpa [Lit.wf, IntKind.min, IntKind.max, IntKind.signed, IntKind.bits] using w
theorem law4_law : ∀ xs, ShL Tryd.prog Tryd.f4.params.toList xs → PC Tryd.prog 4 xs (.lit (.bool true))
  | [x, y], h => by
    obtain ⟨s, rfl, _⟩ := shv_str u9 h.1
    obtain ⟨k, rfl, hk⟩ := shv_int u33 h.2.1
    exact law4 (by have := wf_u16 hk; omega)
  | [], h => h.elim
  | [_], h => h.2.elim
  | _ :: _ :: _ :: _, h => h.2.2.elim
end Go.Proofs.YtkkamgblakhmiaaDoor
