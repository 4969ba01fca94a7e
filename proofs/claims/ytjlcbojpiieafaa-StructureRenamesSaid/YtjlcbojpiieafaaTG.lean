/- Opposites. -/
import Derived.Test.YtjlcbojpiieafaaTD
import Derived.Test.YtjlcbojpiieafaaTE

set_option linter.all false

namespace Go.Proofs.Ytjlcbojpiieafaa
open Go Go.Fw
def kp124 (i : Nat) : List Nat := if i < 1 then [0] else [2]
def kp13 (i : Nat) : List Nat := if i < 9 then if i < 4 then if i < 2 then if i < 1 then [0, 2, 4] else [0, 2, 4, 17] else if i < 3 then [6] else [0, 2, 4, 55] else if i < 6 then if i < 5 then [6] else [0, 2, 4, 7] else if i < 7 then [0, 2, 4, 7, 56, 57, 58] else if i < 8 then [0, 2, 4, 7, 56, 57, 58, 59] else [0, 2, 4, 7, 8, 9, 56, 57, 58] else if i < 13 then if i < 11 then if i < 10 then [0, 2, 4, 7, 8, 9, 56, 57, 58, 70] else [6] else if i < 12 then [0, 2, 4, 7, 9, 56, 57, 58, 80] else [0, 2, 4, 7, 56, 57, 58] else if i < 15 then if i < 14 then [0, 2, 4, 7, 56, 57, 58] else [0, 2, 4, 7, 56, 57, 58] else if i < 16 then [0, 4, 7, 10, 11, 12] else if i < 17 then [10, 11, 12, 13, 14, 15] else [6]
def kp49 (i : Nat) : List Nat := if i < 4 then if i < 2 then if i < 1 then [1, 2] else [1, 2, 3] else if i < 3 then [2, 3, 14, 15, 16] else [2, 3, 14, 15, 16, 17] else if i < 6 then if i < 5 then [2, 3, 5, 14, 15, 16] else [2, 3, 6, 14, 15, 16] else if i < 7 then [2, 3, 14, 15, 16] else if i < 8 then [2, 3, 14, 15, 16] else [2]
def kp85 (i : Nat) : List Nat := if i < 10 then if i < 5 then if i < 2 then if i < 1 then [0, 1] else [0, 1, 6, 8] else if i < 3 then [0, 1, 6, 25] else if i < 4 then [4, 5] else [0, 1, 6, 9] else if i < 7 then if i < 6 then [0, 1, 6, 9, 29] else [0, 1, 6, 9] else if i < 8 then [0, 1, 6, 9, 10] else if i < 9 then [0, 1, 6, 9, 10, 36] else [0, 1, 6, 9, 10] else if i < 15 then if i < 12 then if i < 11 then [0, 1, 6, 9, 43] else [4, 5] else if i < 13 then [0, 1, 45] else if i < 14 then [0, 1, 45, 46] else [4, 5] else if i < 17 then if i < 16 then [0, 1, 53] else [4, 5] else if i < 18 then [1, 66] else if i < 19 then [4, 5] else [4, 5]
def kp98 (i : Nat) : List Nat := if i < 16 then if i < 8 then if i < 4 then if i < 2 then if i < 1 then [0] else [5] else if i < 3 then [5, 6] else [5, 6] else if i < 6 then if i < 5 then [5, 6] else [5, 6] else if i < 7 then [5, 6] else [5, 6] else if i < 12 then if i < 10 then if i < 9 then [5, 6] else [2, 3, 4] else if i < 11 then [5, 15] else [5, 15] else if i < 14 then if i < 13 then [5, 15] else [2, 3, 4] else if i < 15 then [5, 20] else [5, 20] else if i < 24 then if i < 20 then if i < 18 then if i < 17 then [5, 20] else [5, 20] else if i < 19 then [2, 3, 4] else [5, 26] else if i < 22 then if i < 21 then [5, 26] else [2, 3, 4] else if i < 23 then [5, 30] else [5, 30] else if i < 28 then if i < 26 then if i < 25 then [5, 30] else [2, 3, 4] else if i < 27 then [5, 35] else [2, 3, 4] else if i < 30 then if i < 29 then [5, 38] else [2, 3, 4] else if i < 31 then [41] else if i < 32 then [2, 3, 4] else [2, 3, 4]
def kp99 (i : Nat) : List Nat := if i < 6 then if i < 3 then if i < 1 then [0, 1] else if i < 2 then [1, 5] else [1, 5, 6] else if i < 4 then [4] else if i < 5 then [1, 5, 11] else [1, 14] else if i < 9 then if i < 7 then [4] else if i < 8 then [4] else [1, 5, 19] else if i < 11 then if i < 10 then [4] else [1, 28] else if i < 12 then [4] else [4]
set_option maxRecDepth 20000

def w32 (n : Int) : Int := IntKind.i32.wrap n
theorem w32_eq (n : Int) : w32 n = (n + 2147483648) % 4294967296 - 2147483648 := by
  unfold w32 IntKind.wrap
  have e1 : IntKind.i32.bits = 32 := rfl
  have e2 : IntKind.i32.signed = true := rfl
  simp only [e1, e2]
  simp
  try omega
theorem w32_bd (n : Int) : -2147483648 ≤ w32 n ∧ w32 n ≤ 2147483647 := by rw [w32_eq]; omega
theorem wrap_w32 (n : Int) : IntKind.i64.wrap (IntKind.i32.wrap n) = w32 n := wrap_i64 (by have := w32_bd n; unfold w32 at this; unfold inI64; omega)
theorem wrap_pc {n : Int} : PC Try.prog 124 [.lit (.int .i64 n)] (.lit (.int .i64 (w32 n))) := by
  refine pc_ofR F1_ok mixed (kp124) (rs := [.tmp 2]) Try.func124 rfl (by kernel_rfl) (by kernel_rfl) (Nat.le_of_ble_eq_true rfl) ?_
  simp only [initF_cons, initF_nil, Nat.reduceAdd]
  refine t_name fun KF => ?_
  unfold F1
  repeat' (first
   | (with_reducible first | refine t_seq fun K => ?_ | refine t_block ?_ | refine t_scope ?_ | refine t_label ?_ | refine t_skip ?_ | refine t_exit ?_ | refine t_ret ?_ | refine t_k ?_ | refine t_gF ?_ | exact kp_nil | exact Kp.refl _ | exact kp_to | refine kp_cons ?_ | refine kp_arr ?_ | refine kp_app ?_ | refine t_p ?_ | refine t_br (fun hc => ?_) fun hc => ?_)
   | ((with_reducible first | refine t_kE (t_openE ?_) | refine t_kD (t_openD ?_) | refine t_kE ?_ | refine t_kD ?_ | refine t_gS ?_ | refine t_kL ?_ | refine t_kLF ?_ ?_ | refine t_region fun K => ?_ | refine t_cond fun A B => ?_ | refine t_draw (by kernel_rfl) fun K => ?_); (try (first | refine t_hideE fun KL => ?_ | refine t_hideD fun KL => ?_)); simp only [go_sem, geff, kp124])
   | ((with_reducible refine kp_skip ?_ ?_); rfl) | simp only [thenQ, blockQ, scopeQ, Nat.reduceEqDiff, reduceIte] | (with_reducible first | refine And.intro ?_ ?_ | intro vr))
  all_goals try (first | (with_reducible assumption) | (intros; (try simp only [Bool.and_eq_true, Bool.or_eq_true, Bool.or_eq_false_iff, Bool.not_eq_true', Bool.not_eq_false', decide_eq_true_eq, decide_eq_false_iff_not, beq_iff_eq, beq_eq_false_iff_ne, bne_iff_ne, bne_eq_false_iff_eq, ne_eq, inI64, List.length_append] at *) <;> omega))
  all_goals ((first | refine end_retE ?_ | refine end_normE ?_); simp only [fin, go_sem, wrap_w32])
  exact LeA.refl _
noncomputable def con124 : PCon Try.prog where
  f := 124
  c := fun
    | [.lit (.int .i64 n)] => some (True, .lit (.int .i64 (w32 n)))
    | _ => none
  ok := by
    intro args p r hc hp
    split at hc
    · cases hc; exact wrap_pc
    · cases hc
  fk := fk124
theorem con124_f : con124.f = 124 := rfl
theorem con124_c {n : Int} : con124.c [.lit (.int .i64 n)] = some (True, .lit (.int .i64 (w32 n))) := rfl
abbrev s_neg : ByteArray := ⟨#[110, 101, 103]⟩
theorem ng1 : eqS ⟨#[110, 101, 103]⟩ ⟨#[97, 100, 100]⟩ = false := rfl
theorem ng2 : eqS ⟨#[110, 101, 103]⟩ ⟨#[115, 117, 98]⟩ = false := rfl
theorem ng3 : eqS ⟨#[110, 101, 103]⟩ ⟨#[109, 117, 108]⟩ = false := rfl
theorem ng4 : eqS ⟨#[110, 101, 103]⟩ ⟨#[100, 105, 118]⟩ = false := rfl
theorem ng5 : eqS ⟨#[110, 101, 103]⟩ ⟨#[109, 111, 100]⟩ = false := rfl
theorem ng6 : eqS ⟨#[110, 101, 103]⟩ ⟨#[109, 105, 110]⟩ = false := rfl
theorem ng7 : eqS ⟨#[110, 101, 103]⟩ ⟨#[109, 97, 120]⟩ = false := rfl
theorem ng8 : eqS ⟨#[110, 101, 103]⟩ ⟨#[110, 101, 103]⟩ = true := rfl
theorem ng9 : eqS ⟨#[105, 110, 116]⟩ ⟨#[98, 111, 111, 108]⟩ = false := rfl
theorem types_neg : PC Try.prog 98 [.lit (.string s_neg)] (.tup [.sl false 1 (strs [sInt]), .lit (.string sInt), .lit (.bool true)]) := by
  refine pc_ofR F1_ok mixed (kp98) (rs := [.tmp 2, .tmp 3, .tmp 4]) Try.func98 rfl (by kernel_rfl) (by kernel_rfl) (Nat.le_of_ble_eq_true rfl) ?_
  simp only [initF_cons, initF_nil, Nat.reduceAdd]
  refine t_name fun KF => ?_
  unfold F1
  repeat' (first
   | (with_reducible first | refine t_seq fun K => ?_ | refine t_block ?_ | refine t_scope ?_ | refine t_label ?_ | refine t_skip ?_ | refine t_exit ?_ | refine t_ret ?_ | refine t_k ?_ | refine t_gF ?_ | exact kp_nil | exact Kp.refl _ | exact kp_to | refine kp_cons ?_ | refine kp_arr ?_ | refine kp_app ?_ | refine t_p ?_ | refine t_br (fun hc => ?_) fun hc => ?_)
   | ((with_reducible first | refine t_kE (t_openE ?_) | refine t_kD (t_openD ?_) | refine t_kE ?_ | refine t_kD ?_ | refine t_gS ?_ | refine t_kL ?_ | refine t_kLF ?_ ?_ | refine t_region fun K => ?_ | refine t_cond fun A B => ?_ | refine t_draw (by kernel_rfl) fun K => ?_); (try (first | refine t_hideE fun KL => ?_ | refine t_hideD fun KL => ?_)); simp only [go_sem, geff, kp98, ng1, ng2, ng3, ng4, ng5, ng6, ng7, ng8])
   | ((with_reducible refine kp_skip ?_ ?_); rfl) | simp only [thenQ, blockQ, scopeQ, Nat.reduceEqDiff, reduceIte] | (with_reducible first | refine And.intro ?_ ?_ | intro vr))
  all_goals try (first | (with_reducible assumption) | (intros; (try simp only [Bool.and_eq_true, Bool.or_eq_true, Bool.or_eq_false_iff, Bool.not_eq_true', Bool.not_eq_false', decide_eq_true_eq, decide_eq_false_iff_not, beq_iff_eq, beq_eq_false_iff_ne, bne_iff_ne, bne_eq_false_iff_eq, ne_eq, inI64, List.length_append] at *) <;> omega))
  all_goals ((first | refine end_retE ?_ | refine end_normE ?_); simp only [fin, go_sem])
  exact LeA.tup ⟨slS_le rfl, LeA.refl _, LeA.refl _, trivial⟩
noncomputable def con98 : PCon Try.prog where
  f := 98
  c := fun args => match args with
    | [.lit (.string s)] => some (s = s_neg, .tup [.sl false 1 (strs [sInt]), .lit (.string sInt), .lit (.bool true)])
    | _ => none
  ok := by
    intro args p r hc hp
    split at hc
    · cases hc
      subst hp
      exact types_neg
    · cases hc
  fk := fk98
theorem con98_f : con98.f = 98 := rfl
theorem con98_c {s : ByteArray} : con98.c [.lit (.string s)] = some (s = s_neg, .tup [.sl false 1 (strs [sInt]), .lit (.string sInt), .lit (.bool true)]) := rfl
noncomputable def R1 : Env := envJ (P := Try.prog) jk2 zer (fun _ => false) (fun _ => false) [con124] []
theorem R1_ok : EnvOk Try.prog R1 := envJOk zer_ok
theorem one_neg {n : Int} (h : inI64 (-n)) : PC Try.prog 99 [.lit (.string s_neg), .lit (.int .i64 n)] (.lit (.int .i64 (w32 (-n)))) := by
  refine pc_ofR R1_ok mixed (kp99) (rs := [.tmp 4]) Try.func99 rfl (by kernel_rfl) (by kernel_rfl) (Nat.le_of_ble_eq_true rfl) ?_
  simp only [initF_cons, initF_nil, Nat.reduceAdd]
  refine t_name fun KF => ?_
  unfold R1
  repeat' (first
   | (with_reducible first | refine t_seq fun K => ?_ | refine t_block ?_ | refine t_scope ?_ | refine t_label ?_ | refine t_skip ?_ | refine t_exit ?_ | refine t_ret ?_ | refine t_k ?_ | refine t_gF ?_ | exact kp_nil | exact Kp.refl _ | exact kp_to | refine kp_cons ?_ | refine kp_arr ?_ | refine kp_app ?_ | refine t_p ?_ | refine t_br (fun hc => ?_) fun hc => ?_)
   | ((with_reducible first | refine t_kE (t_openE ?_) | refine t_kD (t_openD ?_) | refine t_kE ?_ | refine t_kD ?_ | refine t_gS ?_ | refine t_kL ?_ | refine t_kLF ?_ ?_ | refine t_region fun K => ?_ | refine t_cond fun A B => ?_ | refine t_draw (by kernel_rfl) fun K => ?_); (try (first | refine t_hideE fun KL => ?_ | refine t_hideD fun KL => ?_)); simp only [go_sem, geff, kp99, con124_f, con124_c, ng8])
   | ((with_reducible refine kp_skip ?_ ?_); rfl) | simp only [thenQ, blockQ, scopeQ, Nat.reduceEqDiff, reduceIte] | (with_reducible first | refine And.intro ?_ ?_ | intro vr))
  all_goals try (rw [Int.zero_sub]; exact h)
  all_goals try (first | (with_reducible assumption) | (intros; (try simp only [Bool.and_eq_true, Bool.or_eq_true, Bool.or_eq_false_iff, Bool.not_eq_true', Bool.not_eq_false', decide_eq_true_eq, decide_eq_false_iff_not, beq_iff_eq, beq_eq_false_iff_ne, bne_iff_ne, bne_eq_false_iff_eq, ne_eq, inI64, List.length_append] at *) <;> omega))
  all_goals ((first | refine end_retE ?_ | refine end_normE ?_); simp only [fin, go_sem])
  rw [Int.zero_sub]
  exact LeA.refl _
noncomputable def con99 : PCon Try.prog where
  f := 99
  c := fun args => match args with
    | [.lit (.string s), .lit (.int .i64 n)] => some (s = s_neg ∧ inI64 (-n), .lit (.int .i64 (w32 (-n))))
    | _ => none
  ok := by
    intro args p r hc hp
    split at hc
    · cases hc
      obtain ⟨rfl, h⟩ := hp
      exact one_neg h
    · cases hc
  fk := fk99
theorem con99_f : con99.f = 99 := rfl
theorem con99_c {s : ByteArray} {n : Int} : con99.c [.lit (.string s), .lit (.int .i64 n)] = some (s = s_neg ∧ inI64 (-n), .lit (.int .i64 (w32 (-n)))) := rfl
def negW (n : Int) : Int := if vld sInt n = true then w32 (-n) else 0
noncomputable def R2 : Env := envJ (P := Try.prog) jk2 zer (fun _ => false) (fun _ => false) [con90, con98, con99] []
theorem R2_ok : EnvOk Try.prog R2 := envJOk zer_ok
theorem ng10 : eqS sInt ⟨#[98, 111, 111, 108]⟩ = false := rfl
theorem vld_i (n : Int) : vld ⟨#[105, 110, 116]⟩ n = vld sInt n := rfl
theorem vld_el {n : Int} (h : vld sInt n = true) : -2147483648 ≤ n ∧ n ≤ 2147483647 := by
  unfold vld at h
  rw [if_pos (show eqS sInt sInt = true from rfl)] at h
  exact of_decide_eq_true h
theorem vld_neg {n : Int} : vld sInt (negW n) = true := by
  unfold negW
  split
  · unfold vld
    rw [if_pos (show eqS sInt sInt = true from rfl)]
    exact decide_eq_true (w32_bd _)
  · rfl
set_option maxHeartbeats 2000000 in
theorem neg_pc {n : Int} : PC Try.prog 85 [.lit (.string s_neg), .sl false 1 (ints .i64 [n])] (.tup [.lit (.int .i64 (negW n)), .lit (.bool (vld sInt n))]) := by
  unfold negW
  cases hv : vld sInt n with
  | true =>
    have hel := vld_el hv
    refine pc_ofR R2_ok mixed (kp85) (rs := [.tmp 4, .tmp 5]) Try.func85 rfl (by kernel_rfl) (by kernel_rfl) (Nat.le_of_ble_eq_true rfl) ?_
    simp only [initF_cons, initF_nil, Nat.reduceAdd]
    refine t_name fun KF => ?_
    unfold R2
    repeat' (first
     | (with_reducible first | refine t_seq fun K => ?_ | refine t_block ?_ | refine t_scope ?_ | refine t_label ?_ | refine t_skip ?_ | refine t_exit ?_ | refine t_ret ?_ | refine t_k ?_ | refine t_gF ?_ | exact kp_nil | exact Kp.refl _ | exact kp_to | refine kp_cons ?_ | refine kp_arr ?_ | refine kp_app ?_ | refine t_p ?_ | refine t_br (fun hc => ?_) fun hc => ?_)
     | ((with_reducible first | refine t_kE (t_openE ?_) | refine t_kD (t_openD ?_) | refine t_kE ?_ | refine t_kD ?_ | refine t_gS ?_ | refine t_kL ?_ | refine t_kLF ?_ ?_ | refine t_region fun K => ?_ | refine t_cond fun A B => ?_ | refine t_draw (by kernel_rfl) fun K => ?_); (try (first | refine t_hideE fun KL => ?_ | refine t_hideD fun KL => ?_)); simp only [go_sem, geff, kp85, con90_f, con98_f, con99_f, con98_c, strs_length, ints_length, List.length_cons, List.length_nil])
     | ((with_reducible refine kp_skip ?_ ?_); rfl) | simp only [thenQ, blockQ, scopeQ, Nat.reduceEqDiff, reduceIte] | (with_reducible first | refine And.intro ?_ ?_ | intro vr))
    all_goals try rfl
    all_goals try (first | (with_reducible assumption) | (intros; (try simp only [Bool.and_eq_true, Bool.or_eq_true, Bool.or_eq_false_iff, Bool.not_eq_true', Bool.not_eq_false', decide_eq_true_eq, decide_eq_false_iff_not, beq_iff_eq, beq_eq_false_iff_ne, bne_iff_ne, bne_eq_false_iff_eq, ne_eq, inI64, List.length_append] at *) <;> omega))
    refine t_loopF (ι := Fin 2) (fun i => [(9, .lit (.int .i64 (if i = 0 then 0 else 1)))]) (fun i => []) (fun i => (if i = 0 then 1 else 0)) 0 ?_ ?_
    · simp only [updL_nil, updL_cons, delF_top, delF_upd, Nat.reduceEqDiff, reduceIte]
      refine Le.frameS (by first | rfl | (simp only [go_sem]; try rfl)) ?_
      repeat' (first | exact leF_top _ | exact (fun _ => LeR.refl _) | (with_reducible refine leF_sl ?_ ?_) | (refine leF_upd ?_ ?_))
      all_goals (first | exact LeR.top _ | exact LeR.refl _ | (refine LeR.of_eq ?_; (try simp only [go_sem]); try rfl) | ((try simp only [go_sem]); try rfl))
    rintro i K0
    match i with
    | 0 =>
      have g3 : decide ((0 : Int) < 1) = true := rfl
      repeat' (first
       | (with_reducible first | refine t_seq fun K => ?_ | refine t_block ?_ | refine t_scope ?_ | refine t_label ?_ | refine t_skip ?_ | refine t_exit ?_ | refine t_ret ?_ | refine t_k ?_ | refine t_gF ?_ | exact kp_nil | exact Kp.refl _ | exact kp_to | refine kp_cons ?_ | refine kp_arr ?_ | refine kp_app ?_ | refine t_p ?_ | refine t_br (fun hc => ?_) fun hc => ?_)
       | ((with_reducible first | refine t_kE (t_openE ?_) | refine t_kD (t_openD ?_) | refine t_kE ?_ | refine t_kD ?_ | refine t_gS ?_ | refine t_kL ?_ | refine t_kLF ?_ ?_ | refine t_region fun K => ?_ | refine t_cond fun A B => ?_ | refine t_draw (by kernel_rfl) fun K => ?_); (try (first | refine t_hideE fun KL => ?_ | refine t_hideD fun KL => ?_)); simp only [go_sem, geff, kp85, g3, con90_f, con98_f, con99_f, con90_c, con99_c, strs_length, ints_length, List.length_cons, List.length_nil, vld_i, hv, ng10, List.getD_cons_zero])
       | ((with_reducible refine kp_skip ?_ ?_); rfl) | simp only [thenQ, blockQ, scopeQ, Nat.reduceEqDiff, reduceIte] | (with_reducible first | refine And.intro ?_ ?_ | intro vr))
      all_goals try (first | (with_reducible assumption) | (intros; (try simp only [Bool.and_eq_true, Bool.or_eq_true, Bool.or_eq_false_iff, Bool.not_eq_true', Bool.not_eq_false', decide_eq_true_eq, decide_eq_false_iff_not, beq_iff_eq, beq_eq_false_iff_ne, bne_iff_ne, bne_eq_false_iff_eq, ne_eq, inI64, List.length_append] at *) <;> omega))
      refine ⟨(1 : Fin 2), by decide, ?_⟩
      simp only [updL_nil, updL_cons, delF_top, delF_upd, Nat.reduceEqDiff, reduceIte]
      refine Le.frameS (by first | rfl | (simp only [go_sem]; try rfl)) ?_
      repeat' (first | exact leF_top _ | exact (fun _ => LeR.refl _) | (with_reducible refine leF_sl ?_ ?_) | (refine leF_upd ?_ ?_))
      all_goals (first | exact LeR.top _ | exact LeR.refl _ | (refine LeR.of_eq ?_; (try simp only [go_sem]); try rfl) | ((try simp only [go_sem]); try rfl))
    | 1 =>
      have g4 : decide ((1 : Int) < 1) = false := rfl
      repeat' (first
       | (with_reducible first | refine t_seq fun K => ?_ | refine t_block ?_ | refine t_scope ?_ | refine t_label ?_ | refine t_skip ?_ | refine t_exit ?_ | refine t_ret ?_ | refine t_k ?_ | refine t_gF ?_ | exact kp_nil | exact Kp.refl _ | exact kp_to | refine kp_cons ?_ | refine kp_arr ?_ | refine kp_app ?_ | refine t_p ?_ | refine t_br (fun hc => ?_) fun hc => ?_)
       | ((with_reducible first | refine t_kE (t_openE ?_) | refine t_kD (t_openD ?_) | refine t_kE ?_ | refine t_kD ?_ | refine t_gS ?_ | refine t_kL ?_ | refine t_kLF ?_ ?_ | refine t_region fun K => ?_ | refine t_cond fun A B => ?_ | refine t_draw (by kernel_rfl) fun K => ?_); (try (first | refine t_hideE fun KL => ?_ | refine t_hideD fun KL => ?_)); simp only [go_sem, geff, kp85, g4, con90_f, con98_f, con99_f, con90_c, con99_c, strs_length, ints_length, List.length_cons, List.length_nil, vld_i, hv, ng10, List.getD_cons_zero])
       | ((with_reducible refine kp_skip ?_ ?_); rfl) | simp only [thenQ, blockQ, scopeQ, Nat.reduceEqDiff, reduceIte] | (with_reducible first | refine And.intro ?_ ?_ | intro vr))
      all_goals try rfl
      all_goals try (show inI64 (-n); unfold inI64; omega)
      all_goals try (first | (with_reducible assumption) | (intros; (try simp only [Bool.and_eq_true, Bool.or_eq_true, Bool.or_eq_false_iff, Bool.not_eq_true', Bool.not_eq_false', decide_eq_true_eq, decide_eq_false_iff_not, beq_iff_eq, beq_eq_false_iff_ne, bne_iff_ne, bne_eq_false_iff_eq, ne_eq, inI64, List.length_append] at *) <;> omega))
      all_goals ((first | refine end_retE ?_ | refine end_normE ?_); simp only [fin, go_sem])
      exact LeA.refl _
  | false =>
    refine pc_ofR R2_ok mixed (kp85) (rs := [.tmp 4, .tmp 5]) Try.func85 rfl (by kernel_rfl) (by kernel_rfl) (Nat.le_of_ble_eq_true rfl) ?_
    simp only [initF_cons, initF_nil, Nat.reduceAdd]
    refine t_name fun KF => ?_
    unfold R2
    repeat' (first
     | (with_reducible first | refine t_seq fun K => ?_ | refine t_block ?_ | refine t_scope ?_ | refine t_label ?_ | refine t_skip ?_ | refine t_exit ?_ | refine t_ret ?_ | refine t_k ?_ | refine t_gF ?_ | exact kp_nil | exact Kp.refl _ | exact kp_to | refine kp_cons ?_ | refine kp_arr ?_ | refine kp_app ?_ | refine t_p ?_ | refine t_br (fun hc => ?_) fun hc => ?_)
     | ((with_reducible first | refine t_kE (t_openE ?_) | refine t_kD (t_openD ?_) | refine t_kE ?_ | refine t_kD ?_ | refine t_gS ?_ | refine t_kL ?_ | refine t_kLF ?_ ?_ | refine t_region fun K => ?_ | refine t_cond fun A B => ?_ | refine t_draw (by kernel_rfl) fun K => ?_); (try (first | refine t_hideE fun KL => ?_ | refine t_hideD fun KL => ?_)); simp only [go_sem, geff, kp85, con90_f, con98_f, con99_f, con98_c, strs_length, ints_length, List.length_cons, List.length_nil])
     | ((with_reducible refine kp_skip ?_ ?_); rfl) | simp only [thenQ, blockQ, scopeQ, Nat.reduceEqDiff, reduceIte] | (with_reducible first | refine And.intro ?_ ?_ | intro vr))
    all_goals try rfl
    all_goals try (first | (with_reducible assumption) | (intros; (try simp only [Bool.and_eq_true, Bool.or_eq_true, Bool.or_eq_false_iff, Bool.not_eq_true', Bool.not_eq_false', decide_eq_true_eq, decide_eq_false_iff_not, beq_iff_eq, beq_eq_false_iff_ne, bne_iff_ne, bne_eq_false_iff_eq, ne_eq, inI64, List.length_append] at *) <;> omega))
    refine t_loopF (ι := Unit) (fun i => [(9, .lit (.int .i64 0))]) (fun i => []) (fun i => 0) () ?_ ?_
    · simp only [updL_nil, updL_cons, delF_top, delF_upd, Nat.reduceEqDiff, reduceIte]
      refine Le.frameS (by first | rfl | (simp only [go_sem]; try rfl)) ?_
      repeat' (first | exact leF_top _ | exact (fun _ => LeR.refl _) | (with_reducible refine leF_sl ?_ ?_) | (refine leF_upd ?_ ?_))
      all_goals (first | exact LeR.top _ | exact LeR.refl _ | (refine LeR.of_eq ?_; (try simp only [go_sem]); try rfl) | ((try simp only [go_sem]); try rfl))
    rintro i K0
    have g3 : decide ((0 : Int) < 1) = true := rfl
    repeat' (first
     | (with_reducible first | refine t_seq fun K => ?_ | refine t_block ?_ | refine t_scope ?_ | refine t_label ?_ | refine t_skip ?_ | refine t_exit ?_ | refine t_ret ?_ | refine t_k ?_ | refine t_gF ?_ | exact kp_nil | exact Kp.refl _ | exact kp_to | refine kp_cons ?_ | refine kp_arr ?_ | refine kp_app ?_ | refine t_p ?_ | refine t_br (fun hc => ?_) fun hc => ?_)
     | ((with_reducible first | refine t_kE (t_openE ?_) | refine t_kD (t_openD ?_) | refine t_kE ?_ | refine t_kD ?_ | refine t_gS ?_ | refine t_kL ?_ | refine t_kLF ?_ ?_ | refine t_region fun K => ?_ | refine t_cond fun A B => ?_ | refine t_draw (by kernel_rfl) fun K => ?_); (try (first | refine t_hideE fun KL => ?_ | refine t_hideD fun KL => ?_)); simp only [go_sem, geff, kp85, g3, con90_f, con98_f, con99_f, con90_c, con99_c, strs_length, ints_length, List.length_cons, List.length_nil, vld_i, hv, ng10, List.getD_cons_zero])
     | ((with_reducible refine kp_skip ?_ ?_); rfl) | simp only [thenQ, blockQ, scopeQ, Nat.reduceEqDiff, reduceIte] | (with_reducible first | refine And.intro ?_ ?_ | intro vr))
    all_goals try (first | (with_reducible assumption) | (intros; (try simp only [Bool.and_eq_true, Bool.or_eq_true, Bool.or_eq_false_iff, Bool.not_eq_true', Bool.not_eq_false', decide_eq_true_eq, decide_eq_false_iff_not, beq_iff_eq, beq_eq_false_iff_ne, bne_iff_ne, bne_eq_false_iff_eq, ne_eq, inI64, List.length_append] at *) <;> omega))
    all_goals ((first | refine end_retE ?_ | refine end_normE ?_); simp only [fin, go_sem])
    exact LeA.refl _
noncomputable def con85 : PCon Try.prog where
  f := 85
  c := fun args => match args with
    | [.lit (.string s), x] => (match slK .i64 x with
      | some [n] => some (s = s_neg, .tup [.lit (.int .i64 (negW n)), .lit (.bool (vld sInt n))])
      | _ => none)
    | _ => none
  ok := by
    intro args p r hc hp
    split at hc
    · split at hc
      · rename_i hx
        cases hc
        subst hp
        exact PC.weak neg_pc ⟨LeA.refl _, slK_le hx, trivial⟩
      · cases hc
    · cases hc
  fk := fk85
theorem con85_f : con85.f = 85 := rfl
theorem con85_c {s : ByteArray} {x : AV} : con85.c [.lit (.string s), x] = match slK .i64 x with
      | some [n] => some (s = s_neg, .tup [.lit (.int .i64 (negW n)), .lit (.bool (vld sInt n))])
      | _ => none := rfl
def oppA (a : Arr) : Arr := ⟨a.e, a.d, a.x.map negW⟩
def opT2 (x : List Int) (i : Nat) : List Int := (x.take i).map negW
theorem opT2_zero {x : List Int} : opT2 x 0 = [] := rfl
theorem opT2_succ {x : List Int} {i : Nat} (h : i < x.length) : opT2 x (i + 1) = opT2 x i ++ [negW (x.getD i 0)] := by
  unfold opT2
  rw [List.take_add_one, List.getElem?_eq_getElem h, List.getD_eq_getElem?_getD, List.getElem?_eq_getElem h, List.map_append]; rfl
theorem opT2_len {x : List Int} {i : Nat} (h : i ≤ x.length) : (opT2 x i).length = i := by simp [opT2]; omega
theorem opT2_all {x : List Int} : opT2 x x.length = x.map negW := by simp [opT2]
noncomputable def R3 : Env := envJ (P := Try.prog) jk2 zer (fun _ => false) (fun _ => false) [con85] []
theorem R3_ok : EnvOk Try.prog R3 := envJOk zer_ok
set_option maxHeartbeats 4000000 in
theorem opp_pc {a : Arr} (ha : a.x.length ≤ 1000000) : PC Try.prog 49 [arrV a] (arrV (oppA a)) := by
  refine pc_ofR R3_ok mixed (kp49) (rs := [.cell 2 33]) Try.func49 rfl (by kernel_rfl) (by kernel_rfl) (Nat.le_of_ble_eq_true rfl) ?_
  simp only [initF_cons, initF_nil, Nat.reduceAdd]
  refine t_name fun KF => ?_
  unfold R3
  repeat' (first
   | (with_reducible first | refine t_seq fun K => ?_ | refine t_block ?_ | refine t_scope ?_ | refine t_label ?_ | refine t_skip ?_ | refine t_exit ?_ | refine t_ret ?_ | refine t_k ?_ | refine t_gF ?_ | exact kp_nil | exact Kp.refl _ | exact kp_to | refine kp_cons ?_ | refine kp_arr ?_ | refine kp_app ?_ | refine t_p ?_ | refine t_br (fun hc => ?_) fun hc => ?_)
   | ((with_reducible first | refine t_kE (t_openE ?_) | refine t_kD (t_openD ?_) | refine t_kE ?_ | refine t_kD ?_ | refine t_gS ?_ | refine t_kL ?_ | refine t_kLF ?_ ?_ | refine t_region fun K => ?_ | refine t_cond fun A B => ?_ | refine t_draw (by kernel_rfl) fun K => ?_); (try (first | refine t_hideE fun KL => ?_ | refine t_hideD fun KL => ?_)); simp only [go_sem, geff, kp49, con85_f, arrV_def'])
   | ((with_reducible refine kp_skip ?_ ?_); rfl) | simp only [thenQ, blockQ, scopeQ, Nat.reduceEqDiff, reduceIte] | (with_reducible first | refine And.intro ?_ ?_ | intro vr))
  all_goals try (first | (with_reducible assumption) | (intros; (try simp only [Bool.and_eq_true, Bool.or_eq_true, Bool.or_eq_false_iff, Bool.not_eq_true', Bool.not_eq_false', decide_eq_true_eq, decide_eq_false_iff_not, beq_iff_eq, beq_eq_false_iff_ne, bne_iff_ne, bne_eq_false_iff_eq, ne_eq, inI64, List.length_append] at *) <;> omega))
  refine t_loopF (ι := { i : Gat // i.i ≤ a.x.length }) (fun i => [(16, .lit (.int .i64 i.1.i))]) (fun i => [.box 33 [.lit (.string a.e), .sl false 1 (ints .i64 a.d), .sl false 1 (ints .i64 a.x)], .box 33 [.lit (.string ByteArray.empty), .sl true 1 [], .sl true 1 []], .box 33 [.lit (.string a.e), .sl false 1 (ints .i64 a.d), .arr 3 i.1.v], .arr 3 1 (ints .i64 (opT2 a.x i.1.i)) i.1.v false]) (fun i => a.x.length - i.1.i) ⟨⟨0, 0⟩, by simp⟩ ?_ ?_
  · refine (le_nilB 2 2 3 1 (cs := [.lit (.string a.e), .sl false 1 (ints .i64 a.d), .sl true 1 []]) rfl (by simp) nil_sl).trans ?_
    simp only [updL_nil, updL_cons, delF_top, delF_upd, Nat.reduceEqDiff, reduceIte]
    simp only [opT2_zero, ints_nil]
    refine Le.frameS (by first | rfl | (simp only [go_sem]; try rfl)) ?_
    repeat' (first | exact leF_top _ | exact (fun _ => LeR.refl _) | (with_reducible refine leF_sl ?_ ?_) | (refine leF_upd ?_ ?_))
    all_goals (first | exact LeR.top _ | exact LeR.refl _ | (refine LeR.of_eq ?_; (try simp only [go_sem]); try rfl) | ((try simp only [go_sem]); try rfl))
  rintro ⟨⟨i, v⟩, hi⟩ K0
  simp only at hi
  rcases Nat.lt_or_ge i a.x.length with hc | hc
  · have g3 : decide ((i : Int) < (a.x.length : Int)) = true := decide_eq_true (by omega)
    have hb := opT2_len (x := a.x) hi
    repeat' (first
     | (with_reducible first | refine t_seq fun K => ?_ | refine t_block ?_ | refine t_scope ?_ | refine t_label ?_ | refine t_skip ?_ | refine t_exit ?_ | refine t_ret ?_ | refine t_k ?_ | refine t_gF ?_ | exact kp_nil | exact Kp.refl _ | exact kp_to | refine kp_cons ?_ | refine kp_arr ?_ | refine kp_app ?_ | refine t_p ?_ | refine t_br (fun hc => ?_) fun hc => ?_)
     | ((with_reducible first | refine t_kE (t_openE ?_) | refine t_kD (t_openD ?_) | refine t_kE ?_ | refine t_kD ?_ | refine t_gS ?_ | refine t_kL ?_ | refine t_kLF ?_ ?_ | refine t_region fun K => ?_ | refine t_cond fun A B => ?_ | refine t_draw (by kernel_rfl) fun K => ?_); (try (first | refine t_hideE fun KL => ?_ | refine t_hideD fun KL => ?_)); simp only [go_sem, geff, kp49, g3, Int.toNat_natCast, con85_f, con85_c, slK_cons, slK_emp, Option.map_some])
     | ((with_reducible refine kp_skip ?_ ?_); rfl) | simp only [thenQ, blockQ, scopeQ, Nat.reduceEqDiff, reduceIte] | (with_reducible first | refine And.intro ?_ ?_ | intro vr))
    all_goals try rfl
    all_goals try (first | (with_reducible assumption) | (intros; (try simp only [Bool.and_eq_true, Bool.or_eq_true, Bool.or_eq_false_iff, Bool.not_eq_true', Bool.not_eq_false', decide_eq_true_eq, decide_eq_false_iff_not, beq_iff_eq, beq_eq_false_iff_ne, bne_iff_ne, bne_eq_false_iff_eq, ne_eq, inI64, List.length_append] at *) <;> omega))
    simp only [← opT2_succ hc]
    refine ⟨⟨⟨i + 1, v + 1⟩, by simp only; omega⟩, by first | (simp only; omega) | omega, ?_⟩
    simp only [updL_nil, updL_cons, delF_top, delF_upd, Nat.reduceEqDiff, reduceIte]
    refine Le.frameS (by first | rfl | (simp only [go_sem]; try rfl)) ?_
    repeat' (first | exact leF_top _ | exact (fun _ => LeR.refl _) | (with_reducible refine leF_sl ?_ ?_) | (refine leF_upd ?_ ?_))
    all_goals (first | exact LeR.top _ | exact LeR.refl _ | (refine LeR.of_eq ?_; (try simp only [go_sem]); try rfl) | ((try simp only [go_sem]); try rfl))
  · have hie : i = a.x.length := by omega
    have g3 : decide ((a.x.length : Int) < (a.x.length : Int)) = false := decide_eq_false (by omega)
    repeat' (first
     | (with_reducible first | refine t_seq fun K => ?_ | refine t_block ?_ | refine t_scope ?_ | refine t_label ?_ | refine t_skip ?_ | refine t_exit ?_ | refine t_ret ?_ | refine t_k ?_ | refine t_gF ?_ | exact kp_nil | exact Kp.refl _ | exact kp_to | refine kp_cons ?_ | refine kp_arr ?_ | refine kp_app ?_ | refine t_p ?_ | refine t_br (fun hc => ?_) fun hc => ?_)
     | ((with_reducible first | refine t_kE (t_openE ?_) | refine t_kD (t_openD ?_) | refine t_kE ?_ | refine t_kD ?_ | refine t_gS ?_ | refine t_kL ?_ | refine t_kLF ?_ ?_ | refine t_region fun K => ?_ | refine t_cond fun A B => ?_ | refine t_draw (by kernel_rfl) fun K => ?_); (try (first | refine t_hideE fun KL => ?_ | refine t_hideD fun KL => ?_)); simp only [go_sem, geff, kp49, hie, g3, Int.toNat_natCast, con85_f])
     | ((with_reducible refine kp_skip ?_ ?_); rfl) | simp only [thenQ, blockQ, scopeQ, Nat.reduceEqDiff, reduceIte] | (with_reducible first | refine And.intro ?_ ?_ | intro vr))
    all_goals try (first | (with_reducible assumption) | (intros; (try simp only [Bool.and_eq_true, Bool.or_eq_true, Bool.or_eq_false_iff, Bool.not_eq_true', Bool.not_eq_false', decide_eq_true_eq, decide_eq_false_iff_not, beq_iff_eq, beq_eq_false_iff_ne, bne_iff_ne, bne_eq_false_iff_eq, ne_eq, inI64, List.length_append] at *) <;> omega))
    all_goals ((first | refine end_retE ?_ | refine end_normE ?_); simp only [fin, go_sem])
    rw [opT2_all]
    exact arr_of slK_sl slK_sl rfl
noncomputable def con49 : PCon Try.prog where
  f := 49
  c := fun
    | [xa] => match arrOf xa with | some a => some (a.x.length ≤ 1000000, arrV (oppA a)) | _ => none
    | _ => none
  ok := by
    intro args p r hc hp
    split at hc
    · split at hc
      · rename_i ha
        cases hc
        exact PC.weak (opp_pc hp) ⟨arrOf_le ha, trivial⟩
      · cases hc
    · cases hc
  fk := fk49
theorem con49_f : con49.f = 49 := rfl
theorem con49_c {xa : AV} : con49.c [xa] = match arrOf xa with | some a => some (a.x.length ≤ 1000000, arrV (oppA a)) | _ => none := rfl
end Go.Proofs.Ytjlcbojpiieafaa

/- Opposites of the elements before a primitive, and after it: plain. -/
namespace Go.Proofs.Ytjlcbojpiieafaa
open Go Go.Fw

def otE (op : ByteArray) (j : Nat) (a : Arr) : Arr := if j = 1 ∧ selS op = true then a else oppA a
def otL (op : ByteArray) (l : List Arr) (n : Nat) : List Arr := (List.range n).map fun (j : Nat) => otE op j (l.getD j nilA)
theorem otL_zero {op : ByteArray} {l : List Arr} : otL op l 0 = [] := rfl
theorem otL_succ {op : ByteArray} {l : List Arr} {n : Nat} : otL op l (n + 1) = otL op l n ++ [otE op n (l.getD n nilA)] := by simp [otL, List.range_succ]
theorem otL_len {op : ByteArray} {l : List Arr} (n : Nat) : (otL op l n).length = n := by simp [otL]
theorem negW0 : negW 0 = 0 := rfl
theorem opp_nil : oppA nilA = nilA := rfl
theorem otE_nil {op : ByteArray} {j : Nat} : otE op j nilA = nilA := by unfold otE; split <;> rfl
theorem otE_e {op : ByteArray} {j : Nat} {a : Arr} : (otE op j a).e = a.e := by unfold otE; split <;> rfl
theorem otE_d {op : ByteArray} {j : Nat} {a : Arr} : (otE op j a).d = a.d := by unfold otE; split <;> rfl
theorem otE_len {op : ByteArray} {j : Nat} {a : Arr} : (otE op j a).x.length = a.x.length := by unfold otE; split <;> simp [oppA]
theorem otL_get {op : ByteArray} {l : List Arr} (j : Nat) : (otL op l l.length).getD j nilA = otE op j (l.getD j nilA) := by
  unfold otL
  rw [List.getD_eq_getElem?_getD, List.getElem?_map]
  by_cases h : j < l.length
  · rw [List.getElem?_range h]; rfl
  · rw [List.getElem?_eq_none (by rw [List.length_range]; omega), List.getD_eq_getElem?_getD, List.getElem?_eq_none (by omega)]
    exact otE_nil.symm
theorem map_getD0 {f : Int → Int} (h0 : f 0 = 0) (x : List Int) (j : Nat) : (x.map f).getD j 0 = f (x.getD j 0) := by
  rw [List.getD_eq_getElem?_getD, List.getD_eq_getElem?_getD, List.getElem?_map]
  cases x[j]? with
  | none => exact h0.symm
  | some v => rfl
theorem map_ot {β : Type} {f : Arr → β} {op : ByteArray} {l : List Arr} (h : ∀ j a, f (otE op j a) = f a) : (otL op l l.length).map f = l.map f := by
  apply List.ext_getElem
  · simp [otL]
  · intro i h1 h2
    simp only [List.length_map] at h2
    rw [List.getElem_map, List.getElem_map]
    have : (otL op l l.length)[i]'(by rw [otL_len]; exact h2) = otE op i (l.getD i nilA) := by
      simp [otL]
    rw [this, h, List.getD_eq_getElem?_getD, List.getElem?_eq_getElem h2]
    rfl
theorem opp_val {a : Arr} (h : ofE a = 0) (he : a.e = sInt) : ofE (oppA a) = 0 := by
  have h1 := (ofE_inv h).2.1
  refine of_ok (ofE_inv h).1 (by rw [h1]) (by rw [h1]; simp [oppA]) fun n hn => ?_
  obtain ⟨m, _, rfl⟩ := List.mem_map.1 hn
  rw [he]
  exact vld_neg
theorem otL_val {op : ByteArray} {l : List Arr} (hv : ∀ a ∈ l, ofE a = 0 ∧ a.e = sInt) : ∀ a ∈ otL op l l.length, ofE a = 0 := by
  intro a ha
  obtain ⟨j, hj, rfl⟩ := List.mem_map.1 ha
  rw [List.mem_range] at hj
  have hm : l.getD j nilA ∈ l := by rw [List.getD_eq_getElem?_getD, List.getElem?_eq_getElem hj]; exact List.getElem_mem hj
  unfold otE
  split
  · exact (hv _ hm).1
  · exact opp_val (hv _ hm).1 (hv _ hm).2
theorem flat_ot : ∀ {l : List Arr}, (l.map oppA).flatMap (·.x) = (l.flatMap (·.x)).map negW
  | [] => rfl
  | a :: t => by
    have := flat_ot (l := t)
    simp only [List.map_cons, List.flatMap_cons, this, List.map_append]
    rfl
theorem data_join {op : ByteArray} {k : Int} {d : List Int} {l : List Arr} {g : Nat} (hi : eqS op n_iota = false) (h1 : (eqS op n_append || eqS op n_pack) = true) : dataS op k d l g = (l.flatMap (·.x), false) := by
  unfold dataS
  rw [if_neg (by rw [hi]; simp), if_pos h1]
theorem data_pick {op : ByteArray} {k : Int} {d : List Int} {l : List Arr} {g : Nat} (hi : eqS op n_iota = false) (h1 : ¬ (eqS op n_append || eqS op n_pack) = true) (h2 : selS op = true) : dataS op k d l g = checkedS op l := by
  unfold dataS
  rw [if_neg (by rw [hi]; simp), if_neg h1, if_pos h2]
theorem data_move {op : ByteArray} {k : Int} {d : List Int} {l : List Arr} {g : Nat} (hi : eqS op n_iota = false) (h1 : ¬ (eqS op n_append || eqS op n_pack) = true) (h2 : ¬ selS op = true) : dataS op k d l g = (gatherS g k d (l.getD 0 nilA) (sizeS d).1.toNat, false) := by
  unfold dataS
  rw [if_neg (by rw [hi]; simp), if_neg h1, if_neg h2]
theorem applyS_E {op : ByteArray} {ns : List Int} {num : Int} {cs : List Arr} (h : (givenS op ns.length num cs.length).2 ≠ 0) : applyS op ns num cs = (nilA, false, (givenS op ns.length num cs.length).2) := by
  unfold applyS; rw [if_pos h]
theorem applyS_T {op : ByteArray} {ns : List Int} {num : Int} {cs : List Arr} (h : (givenS op ns.length num cs.length).2 = 0) (hv : ∀ a ∈ cs, ofE a = 0) :
    applyS op ns num cs = applyT op (sizeK ns num) cs ((givenS op ns.length num cs.length).1.from_.getD 0) (resultS op (cs.map (·.e))) (dimsI op ns num (cs.map (·.d))) := by
  unfold applyS; rw [if_neg (by simpa using h), if_neg (by rw [all_val hv]; simp)]
theorem data_ot {op : ByteArray} {k : Int} {d : List Int} {l : List Arr} {g : Nat} (hi : eqS op n_iota = false) :
    dataS op k d (otL op l l.length) g = ((dataS op k d l g).1.map negW, (dataS op k d l g).2) := by
  by_cases h1 : (eqS op n_append || eqS op n_pack) = true
  · rw [data_join hi h1, data_join hi h1]
    have hs : selS op = false := by
      rw [Bool.or_eq_true] at h1
      rcases h1 with h1 | h1 <;> (rw [eqS_iff.1 h1]; rfl)
    have : otL op l l.length = l.map oppA := by
      have := map_ot (f := fun a => a) (op := op) (l := l)
      apply List.ext_getElem
      · simp [otL]
      · intro i a1 a2
        rw [List.length_map] at a2
        have : (otL op l l.length)[i]'(by rw [otL_len]; exact a2) = otE op i (l.getD i nilA) := by simp [otL]
        rw [this, List.getElem_map]
        unfold otE
        rw [if_neg (by rw [hs]; simp), List.getD_eq_getElem?_getD, List.getElem?_eq_getElem a2]
        rfl
    rw [this, flat_ot]
  · by_cases h2 : selS op = true
    · rw [data_pick hi h1 h2, data_pick hi h1 h2]
      have g0 := otL_get (op := op) (l := l) 0
      have g1 := otL_get (op := op) (l := l) 1
      have g2 := otL_get (op := op) (l := l) 2
      rw [show ∀ a, otE op 0 a = oppA a from fun a => by unfold otE; rw [if_neg (by simp)]] at g0
      rw [show ∀ a, otE op 1 a = a from fun a => by unfold otE; rw [if_pos ⟨rfl, h2⟩]] at g1
      rw [show ∀ a, otE op 2 a = oppA a from fun a => by unfold otE; rw [if_neg (by simp)]] at g2
      unfold checkedS
      simp only [g0, g1, g2]
      have ho : outS (oppA (l.getD 0 nilA)) (l.getD 1 nilA) = outS (l.getD 0 nilA) (l.getD 1 nilA) := by simp [outS, oppA]
      rw [ho]
      have e0 : (oppA (l.getD 0 nilA)).x = (l.getD 0 nilA).x.map negW := rfl
      have e2 : (oppA (l.getD 2 nilA)).x = (l.getD 2 nilA).x.map negW := rfl
      rw [e0, e2, map_getD0 negW0, map_getD0 negW0]
      split
      · rfl
      split
      · rfl
      split
      · rfl
      · simp only [List.map_set]
    · rw [data_move hi h1 h2, data_move hi h1 h2]
      have g0 := otL_get (op := op) (l := l) 0
      rw [show ∀ a, otE op 0 a = oppA a from fun a => by unfold otE; rw [if_neg (by simp)]] at g0
      rw [g0]
      unfold gatherS
      rw [List.map_map]
      congr 1
      apply List.map_congr_left
      intro j _
      show ((l.getD 0 nilA).x.map negW).getD _ 0 = _
      rw [map_getD0 negW0]
      rfl
theorem app_ot {op : ByteArray} {ns : List Int} {num : Int} {l : List Arr} (hi : eqS op n_iota = false) (hv : ∀ a ∈ l, ofE a = 0 ∧ a.e = sInt) :
    (applyS op ns num (otL op l l.length)).2.1 = (applyS op ns num l).2.1 ∧ (applyS op ns num (otL op l l.length)).2.2 = (applyS op ns num l).2.2 ∧
      ((applyS op ns num l).2.2 = 0 → (applyS op ns num (otL op l l.length)).1 = oppA (applyS op ns num l).1 ∧ ofE (oppA (applyS op ns num l).1) = 0) := by
  have hval := otL_val (op := op) hv
  have key : applyS op ns num (otL op l l.length) = (if (applyS op ns num l).2.2 = 0 then oppA (applyS op ns num l).1 else (applyS op ns num l).1, (applyS op ns num l).2) := by
    by_cases h0 : (givenS op ns.length num l.length).2 = 0
    · rw [applyS_T (by rw [otL_len]; exact h0) hval, applyS_T h0 fun a ha => (hv a ha).1, otL_len]
      have e1 : (otL op l l.length).map (fun a => a.e) = l.map (fun a => a.e) := map_ot fun _ _ => otE_e
      have e2 : (otL op l l.length).map (fun a => a.d) = l.map (fun a => a.d) := map_ot fun _ _ => otE_d
      rw [e1, e2]
      unfold applyT
      by_cases h3 : (resultS op (l.map fun a => a.e)).2 = false
      · simp only [h3, if_true]; rfl
      · by_cases h4 : (dimsI op ns num (l.map fun a => a.d)).2 = 0
        · simp only [h3, h4, if_false, if_true, data_ot hi, ne_eq, not_true]; rfl
        · simp only [h3, h4, if_false, if_true, ne_eq, not_false_eq_true, reduceCtorEq]
    · rw [applyS_E (by rw [otL_len]; exact h0), applyS_E h0, otL_len, if_neg h0]
  refine ⟨by rw [key], by rw [key], fun h => ⟨by rw [key, if_pos h], ?_⟩⟩
  have h2 := app_inv op ns num (otL op l l.length)
  rw [key, if_pos h] at h2
  rcases h2 with ⟨a, _⟩ | h2
  · exact absurd h a
  · exact h2.val
end Go.Proofs.Ytjlcbojpiieafaa

/- The law on opposites. -/
namespace Go.Proofs.Ytjlcbojpiieafaa
open Go Go.Fw
set_option maxRecDepth 20000

def gdR (op : ByteArray) (ns : List Int) (l : List Arr) : Bool := ((decide ((op.size : Int) > 20) || eqS op ⟨#[105, 111, 116, 97]⟩) || decide ((ns.length : Int) > 3)) || !fewM l
noncomputable def P3 : Env := envJ (P := Try.prog) jk2 zer (fun _ => false) (fun _ => false) [con36, con38, con39, con40, con47, con49] []
theorem P3_ok : EnvOk Try.prog P3 := envJOk zer_ok
theorem otE_one {op : ByteArray} {j : Nat} {a : Arr} (h : ((j : Int) == 1) = true) (hs : selS op = true) : otE op j a = a := by
  unfold otE
  rw [if_pos ⟨by have := beq_iff_eq.1 h; omega, hs⟩]
theorem otE_opp {op : ByteArray} {j : Nat} {a : Arr} (h : ((j : Int) == 1) = false ∨ selS op = false) : otE op j a = oppA a := by
  unfold otE
  rw [if_neg]
  rintro ⟨h1, h2⟩
  rcases h with h | h
  · subst h1; cases h
  · rw [h] at h2; cases h2
theorem arrs_nil : arrs [] = [] := rfl
theorem arrs_app1 {l : List Arr} {a : Arr} : arrs l ++ [.agg [.lit (.string a.e), .sl false 1 (ints .i64 a.d), .sl false 1 (ints .i64 a.x)]] = arrs (l ++ [a]) := by simp [arrs, arrV]
set_option maxHeartbeats 8000000 in
theorem ren_law_pc {op : ByteArray} {ns : List Int} {num : Int} {l : List Arr} (hm : l.length ≤ 9223372036854775807) : PC Try.prog 13 [.lit (.string op), .agg [.sl false 1 (ints .i64 ns), .lit (.int .i64 num)], .sl false 3 (arrs l)] (.lit (.bool true)) := by
  rcases Bool.eq_false_or_eq_true (gdR op ns l) with hg | hg
  · have hx : (((decide ((op.size : Int) > 20) || eqS op ⟨#[105, 111, 116, 97]⟩) || decide ((ns.length : Int) > 3)) || !fewM l) = true := hg
    refine pc_ofR P3_ok mixed (kp13) (rs := [.tmp 6]) Try.func13 rfl (by kernel_rfl) (by kernel_rfl) (Nat.le_of_ble_eq_true rfl) ?_
    simp only [initF_cons, initF_nil, Nat.reduceAdd]
    refine t_name fun KF => ?_
    unfold P3
    repeat' (first
     | (with_reducible first | refine t_seq fun K => ?_ | refine t_block ?_ | refine t_scope ?_ | refine t_label ?_ | refine t_skip ?_ | refine t_exit ?_ | refine t_ret ?_ | refine t_k ?_ | refine t_gF ?_ | exact kp_nil | exact Kp.refl _ | exact kp_to | refine kp_cons ?_ | refine kp_arr ?_ | refine kp_app ?_ | refine t_p ?_ | refine t_br (fun hc => ?_) fun hc => ?_)
     | ((with_reducible first | refine t_kE (t_openE ?_) | refine t_kD (t_openD ?_) | refine t_kE ?_ | refine t_kD ?_ | refine t_gS ?_ | refine t_kL ?_ | refine t_kLF ?_ ?_ | refine t_region fun K => ?_ | refine t_cond fun A B => ?_ | refine t_draw (by kernel_rfl) fun K => ?_); (try (first | refine t_hideE fun KL => ?_ | refine t_hideD fun KL => ?_)); simp only [go_sem, geff, kp13, con36_f, con38_f, con39_f, con40_f, con47_f, con49_f, con38_c, con39_c, arrsOf_sl, hx])
     | ((with_reducible refine kp_skip ?_ ?_); rfl) | simp only [thenQ, blockQ, scopeQ, Nat.reduceEqDiff, reduceIte] | (with_reducible first | refine And.intro ?_ ?_ | intro vr))
    all_goals try (first | (with_reducible assumption) | (intros; (try simp only [Bool.and_eq_true, Bool.or_eq_true, Bool.or_eq_false_iff, Bool.not_eq_true', Bool.not_eq_false', decide_eq_true_eq, decide_eq_false_iff_not, beq_iff_eq, beq_eq_false_iff_ne, bne_iff_ne, bne_eq_false_iff_eq, ne_eq, inI64, List.length_append] at *) <;> omega))
    all_goals ((first | refine end_retE ?_ | refine end_normE ?_); simp only [fin, go_sem])
    exact LeA.refl _
  have hx : (((decide ((op.size : Int) > 20) || eqS op ⟨#[105, 111, 116, 97]⟩) || decide ((ns.length : Int) > 3)) || !fewM l) = false := hg
  have hgp := hg
  simp only [gdR, Bool.or_eq_false_iff] at hgp
  have hf : fewM l = true := by simpa using hgp.2
  have hio : eqS op n_iota = false := hgp.1.1.2
  obtain ⟨h5, hok⟩ := fewM_ok hf
  have hsp : (decide ((ns.length : Int) > 0) = true ∧ decide (ns.getD 0 0 > 400) = true ∧ decide (ns.getD 0 0 ≤ 4096) = true) ∨ ((decide ((ns.length : Int) > 0) = false ∧ decide ((ns.length : Int) > 0) = false ∧ decide ((ns.length : Int) > 0) = false) ∨
      (decide ((ns.length : Int) > 0) = true ∧ decide (ns.getD 0 0 > 400) = false ∧ decide (ns.getD 0 0 > 400) = false) ∨ (decide ((ns.length : Int) > 0) = true ∧ decide (ns.getD 0 0 > 400) = true ∧ decide (ns.getD 0 0 ≤ 4096) = false)) := by
    cases decide ((ns.length : Int) > 0) <;> cases decide (ns.getD 0 0 > 400) <;> cases decide (ns.getD 0 0 ≤ 4096) <;> simp
  rcases hsp with ⟨y1, y2, y3⟩ | hsp
  · skip
    refine pc_ofR P3_ok mixed (kp13) (rs := [.tmp 6]) Try.func13 rfl (by kernel_rfl) (by kernel_rfl) (Nat.le_of_ble_eq_true rfl) ?_
    simp only [initF_cons, initF_nil, Nat.reduceAdd]
    refine t_name fun KF => ?_
    unfold P3
    repeat' (first
     | (with_reducible first | refine t_seq fun K => ?_ | refine t_block ?_ | refine t_scope ?_ | refine t_label ?_ | refine t_skip ?_ | refine t_exit ?_ | refine t_ret ?_ | refine t_k ?_ | refine t_gF ?_ | exact kp_nil | exact Kp.refl _ | exact kp_to | refine kp_cons ?_ | refine kp_arr ?_ | refine kp_app ?_ | refine t_p ?_ | refine t_br (fun hc => ?_) fun hc => ?_)
     | ((with_reducible first | refine t_kE (t_openE ?_) | refine t_kD (t_openD ?_) | refine t_kE ?_ | refine t_kD ?_ | refine t_gS ?_ | refine t_kL ?_ | refine t_kLF ?_ ?_ | refine t_region fun K => ?_ | refine t_cond fun A B => ?_ | refine t_draw (by kernel_rfl) fun K => ?_); (try (first | refine t_hideE fun KL => ?_ | refine t_hideD fun KL => ?_)); simp only [go_sem, geff, kp13, con36_f, con38_f, con39_f, con40_f, con47_f, con49_f, con38_c, con39_c, arrsOf_sl, hx, y1, y2, y3])
     | ((with_reducible refine kp_skip ?_ ?_); rfl) | simp only [thenQ, blockQ, scopeQ, Nat.reduceEqDiff, reduceIte] | (with_reducible first | refine And.intro ?_ ?_ | intro vr))
    all_goals try (first | (with_reducible assumption) | (intros; (try simp only [Bool.and_eq_true, Bool.or_eq_true, Bool.or_eq_false_iff, Bool.not_eq_true', Bool.not_eq_false', decide_eq_true_eq, decide_eq_false_iff_not, beq_iff_eq, beq_eq_false_iff_ne, bne_iff_ne, bne_eq_false_iff_eq, ne_eq, inI64, List.length_append] at *) <;> omega))
    all_goals ((first | refine end_retE ?_ | refine end_normE ?_); simp only [fin, go_sem])
    exact LeA.refl _
  generalize hR : applyS op ns num l = R
  generalize hR2 : applyS op ns num (otL op l l.length) = R2
  have hot : (∀ a ∈ l, ofE a = 0 ∧ a.e = sInt) → R2.2.1 = R.2.1 ∧ R2.2.2 = R.2.2 ∧ (R.2.2 = 0 → R2.1 = oppA R.1 ∧ ofE (oppA R.1) = 0) := fun h => by
    have := app_ot (ns := ns) (num := num) hio h
    rw [hR, hR2] at this
    exact this
  have ho1 := app_okA op ns num l
  have ho2 := app_okA op ns num (otL op l l.length)
  rw [hR] at ho1
  rw [hR2] at ho2
  have ho1x := ho1.2
  rcases hsp with ⟨y1, y2, y3⟩ | ⟨y1, y2, y3⟩ | ⟨y1, y2, y3⟩
  all_goals
    refine pc_ofR P3_ok mixed (kp13) (rs := [.tmp 6]) Try.func13 rfl (by kernel_rfl) (by kernel_rfl) (Nat.le_of_ble_eq_true rfl) ?_
    simp only [initF_cons, initF_nil, Nat.reduceAdd]
    refine t_name fun KF => ?_
    unfold P3
    repeat' (first
     | (with_reducible first | refine t_seq fun K => ?_ | refine t_block ?_ | refine t_scope ?_ | refine t_label ?_ | refine t_skip ?_ | refine t_exit ?_ | refine t_ret ?_ | refine t_k ?_ | refine t_gF ?_ | exact kp_nil | exact Kp.refl _ | exact kp_to | refine kp_cons ?_ | refine kp_arr ?_ | refine kp_app ?_ | refine t_p ?_ | refine t_br (fun hc => ?_) fun hc => ?_)
     | ((with_reducible first | refine t_kE (t_openE ?_) | refine t_kD (t_openD ?_) | refine t_kE ?_ | refine t_kD ?_ | refine t_gS ?_ | refine t_kL ?_ | refine t_kLF ?_ ?_ | refine t_region fun K => ?_ | refine t_cond fun A B => ?_ | refine t_draw (by kernel_rfl) fun K => ?_); (try (first | refine t_hideE fun KL => ?_ | refine t_hideD fun KL => ?_)); simp only [go_sem, geff, kp13, con36_f, con38_f, con39_f, con40_f, con47_f, con49_f, con38_c, con39_c, arrsOf_sl, hx, y1, y2, y3, arrs_length])
     | ((with_reducible refine kp_skip ?_ ?_); rfl) | simp only [thenQ, blockQ, scopeQ, Nat.reduceEqDiff, reduceIte] | (with_reducible first | refine And.intro ?_ ?_ | intro vr))
    all_goals try (first | (with_reducible assumption) | (intros; (try simp only [Bool.and_eq_true, Bool.or_eq_true, Bool.or_eq_false_iff, Bool.not_eq_true', Bool.not_eq_false', decide_eq_true_eq, decide_eq_false_iff_not, beq_iff_eq, beq_eq_false_iff_ne, bne_iff_ne, bne_eq_false_iff_eq, ne_eq, inI64, List.length_append] at *) <;> omega))
    refine t_loopF (ι := { i : Gat // i.i ≤ l.length ∧ ∀ j, j < i.i → ofE (l.getD j nilA) = 0 ∧ (l.getD j nilA).e = sInt }) (fun i => [(58, .lit (.int .i64 i.1.i)), (7, .arr 1 i.1.v)]) (fun i => [.box 59 [.sl false 1 (ints .i64 ns), .lit (.int .i64 num)], .arr 33 3 (arrs (otL op l i.1.i)) i.1.v false]) (fun i => l.length - i.1.i) ⟨⟨0, 0⟩, by simp, fun j hj => by cases hj⟩ ?_ ?_
    · refine (le_nil 7 33 3 rfl).trans ?_
      simp only [updL_nil, updL_cons, delF_top, delF_upd, Nat.reduceEqDiff, reduceIte]
      simp only [otL_zero, arrs_nil]
      refine Le.frameS (by first | rfl | (simp only [go_sem]; try rfl)) ?_
      repeat' (first | exact leF_top _ | exact (fun _ => LeR.refl _) | (with_reducible refine leF_sl ?_ ?_) | (refine leF_upd ?_ ?_))
      all_goals (first | exact LeR.top _ | exact LeR.refl _ | (refine LeR.of_eq ?_; (try simp only [go_sem]); try rfl) | ((try simp only [go_sem]); try rfl))
    rintro ⟨⟨i, v⟩, hi, hpre⟩ K0
    simp only at hi hpre
    rcases Nat.lt_or_ge i l.length with hc1 | hc1
    · have g3 : decide ((i : Int) < (l.length : Int)) = true := decide_eq_true (by omega)
      have hm : l.getD i nilA ∈ l := by rw [List.getD_eq_getElem?_getD, List.getElem?_eq_getElem hc1]; exact List.getElem_mem hc1
      have o1 := (hok _ hm).1
      have o2 := (hok _ hm).2
      have hln := otL_len (op := op) (l := l) i
      have hnx : (!eqS (l.getD i nilA).e ⟨#[105, 110, 116]⟩ || !(ofE (l.getD i nilA) == 0)) = false → ∀ j, j < i + 1 → ofE (l.getD j nilA) = 0 ∧ (l.getD j nilA).e = sInt := fun h j hj => by
        rcases Nat.lt_or_ge j i with h1 | h1
        · exact hpre j h1
        · obtain rfl : j = i := by omega
          simp only [Bool.or_eq_false_iff, Bool.not_eq_false'] at h
          exact ⟨beq_iff_eq.1 h.2, eqS_iff.1 h.1⟩
      cases hbad : (!eqS (l.getD i nilA).e ⟨#[105, 110, 116]⟩ || !(ofE (l.getD i nilA) == 0)) with
      | true =>
        repeat' (first
         | (with_reducible first | refine t_seq fun K => ?_ | refine t_block ?_ | refine t_scope ?_ | refine t_label ?_ | refine t_skip ?_ | refine t_exit ?_ | refine t_ret ?_ | refine t_k ?_ | refine t_gF ?_ | exact kp_nil | exact Kp.refl _ | exact kp_to | refine kp_cons ?_ | refine kp_arr ?_ | refine kp_app ?_ | refine t_p ?_ | refine t_br (fun hc => ?_) fun hc => ?_)
         | ((with_reducible first | refine t_kE (t_openE ?_) | refine t_kD (t_openD ?_) | refine t_kE ?_ | refine t_kD ?_ | refine t_gS ?_ | refine t_kL ?_ | refine t_kLF ?_ ?_ | refine t_region fun K => ?_ | refine t_cond fun A B => ?_ | refine t_draw (by kernel_rfl) fun K => ?_); (try (first | refine t_hideE fun KL => ?_ | refine t_hideD fun KL => ?_)); simp only [go_sem, geff, kp13, g3, hbad, Int.toNat_natCast, con36_f, con38_f, con39_f, con40_f, con47_f, con49_f, con36_c, arrs_length, arrV_def', arrOf_agg])
         | ((with_reducible refine kp_skip ?_ ?_); rfl) | simp only [thenQ, blockQ, scopeQ, Nat.reduceEqDiff, reduceIte] | (with_reducible first | refine And.intro ?_ ?_ | intro vr))
        all_goals try (first | (with_reducible assumption) | (intros; (try simp only [Bool.and_eq_true, Bool.or_eq_true, Bool.or_eq_false_iff, Bool.not_eq_true', Bool.not_eq_false', decide_eq_true_eq, decide_eq_false_iff_not, beq_iff_eq, beq_eq_false_iff_ne, bne_iff_ne, bne_eq_false_iff_eq, ne_eq, inI64, List.length_append] at *) <;> omega))
        all_goals ((first | refine end_retE ?_ | refine end_normE ?_); simp only [fin, go_sem])
        exact LeA.refl _
      | false =>
        have hnx := hnx hbad
        cases hone : ((i : Int) == 1) with
        | false =>
          have e2 : otL op l i ++ [oppA (l.getD i nilA)] = otL op l (i + 1) := by rw [otL_succ, otE_opp (.inl hone)]
          repeat' (first
           | (with_reducible first | refine t_seq fun K => ?_ | refine t_block ?_ | refine t_scope ?_ | refine t_label ?_ | refine t_skip ?_ | refine t_exit ?_ | refine t_ret ?_ | refine t_k ?_ | refine t_gF ?_ | exact kp_nil | exact Kp.refl _ | exact kp_to | refine kp_cons ?_ | refine kp_arr ?_ | refine kp_app ?_ | refine t_p ?_ | refine t_br (fun hc => ?_) fun hc => ?_)
           | ((with_reducible first | refine t_kE (t_openE ?_) | refine t_kD (t_openD ?_) | refine t_kE ?_ | refine t_kD ?_ | refine t_gS ?_ | refine t_kL ?_ | refine t_kLF ?_ ?_ | refine t_region fun K => ?_ | refine t_cond fun A B => ?_ | refine t_draw (by kernel_rfl) fun K => ?_); (try (first | refine t_hideE fun KL => ?_ | refine t_hideD fun KL => ?_)); simp only [go_sem, geff, kp13, g3, hbad, hone, Int.toNat_natCast, con36_f, con38_f, con39_f, con40_f, con47_f, con49_f, con36_c, con49_c, arrs_length, arrV_def', arrOf_agg, slK_sl, arr_eta, arrs_app1])
           | ((with_reducible refine kp_skip ?_ ?_); rfl) | simp only [thenQ, blockQ, scopeQ, Nat.reduceEqDiff, reduceIte] | (with_reducible first | refine And.intro ?_ ?_ | intro vr))
          all_goals try (first | (with_reducible assumption) | (intros; (try simp only [Bool.and_eq_true, Bool.or_eq_true, Bool.or_eq_false_iff, Bool.not_eq_true', Bool.not_eq_false', decide_eq_true_eq, decide_eq_false_iff_not, beq_iff_eq, beq_eq_false_iff_ne, bne_iff_ne, bne_eq_false_iff_eq, ne_eq, inI64, List.length_append] at *) <;> omega))
          simp only [e2]
          refine ⟨⟨⟨i + 1, v + 1⟩, by simp only; omega, hnx⟩, by first | (simp only; omega) | omega, ?_⟩
          simp only [updL_nil, updL_cons, delF_top, delF_upd, Nat.reduceEqDiff, reduceIte]
          refine le_backD (by first | rfl | (simp only [go_sem]; try rfl)) (by first | exact Nat.zero_le _ | simp) (by first | rfl | simp [lowO, low_lit, low_sl, low_ref, low_arr]) ?_ ?_
          · repeat' (first | exact low_top | (refine low_upd rfl ?_))
          repeat' (first | exact leF_top _ | exact (fun _ => LeR.refl _) | (with_reducible refine leF_sl ?_ ?_) | (refine leF_upd ?_ ?_))
          all_goals (first | exact LeR.top _ | exact LeR.refl _ | (refine LeR.of_eq ?_; (try simp only [go_sem]); try rfl) | ((try simp only [go_sem]); try rfl))
        | true =>
          rcases Bool.eq_false_or_eq_true (eqS op n_index) with qi | qi
          · have qi' : eqS op ⟨#[105, 110, 100, 101, 120]⟩ = true := qi
            have e2 : otL op l i ++ [l.getD i nilA] = otL op l (i + 1) := by rw [otL_succ, otE_one hone (by unfold selS; rw [qi]; rfl)]
            repeat' (first
             | (with_reducible first | refine t_seq fun K => ?_ | refine t_block ?_ | refine t_scope ?_ | refine t_label ?_ | refine t_skip ?_ | refine t_exit ?_ | refine t_ret ?_ | refine t_k ?_ | refine t_gF ?_ | exact kp_nil | exact Kp.refl _ | exact kp_to | refine kp_cons ?_ | refine kp_arr ?_ | refine kp_app ?_ | refine t_p ?_ | refine t_br (fun hc => ?_) fun hc => ?_)
             | ((with_reducible first | refine t_kE (t_openE ?_) | refine t_kD (t_openD ?_) | refine t_kE ?_ | refine t_kD ?_ | refine t_gS ?_ | refine t_kL ?_ | refine t_kLF ?_ ?_ | refine t_region fun K => ?_ | refine t_cond fun A B => ?_ | refine t_draw (by kernel_rfl) fun K => ?_); (try (first | refine t_hideE fun KL => ?_ | refine t_hideD fun KL => ?_)); simp only [go_sem, geff, kp13, g3, hbad, hone, Int.toNat_natCast, con36_f, con38_f, con39_f, con40_f, con47_f, con49_f, con36_c, con49_c, arrs_length, arrV_def', arrOf_agg, slK_sl, arr_eta, arrs_app1, qi'])
             | ((with_reducible refine kp_skip ?_ ?_); rfl) | simp only [thenQ, blockQ, scopeQ, Nat.reduceEqDiff, reduceIte] | (with_reducible first | refine And.intro ?_ ?_ | intro vr))
            all_goals try (first | (with_reducible assumption) | (intros; (try simp only [Bool.and_eq_true, Bool.or_eq_true, Bool.or_eq_false_iff, Bool.not_eq_true', Bool.not_eq_false', decide_eq_true_eq, decide_eq_false_iff_not, beq_iff_eq, beq_eq_false_iff_ne, bne_iff_ne, bne_eq_false_iff_eq, ne_eq, inI64, List.length_append] at *) <;> omega))
            simp only [e2]
            refine ⟨⟨⟨i + 1, v + 1⟩, by simp only; omega, hnx⟩, by first | (simp only; omega) | omega, ?_⟩
            simp only [updL_nil, updL_cons, delF_top, delF_upd, Nat.reduceEqDiff, reduceIte]
            refine le_backD (by first | rfl | (simp only [go_sem]; try rfl)) (by first | exact Nat.zero_le _ | simp) (by first | rfl | simp [lowO, low_lit, low_sl, low_ref, low_arr]) ?_ ?_
            · repeat' (first | exact low_top | (refine low_upd rfl ?_))
            repeat' (first | exact leF_top _ | exact (fun _ => LeR.refl _) | (with_reducible refine leF_sl ?_ ?_) | (refine leF_upd ?_ ?_))
            all_goals (first | exact LeR.top _ | exact LeR.refl _ | (refine LeR.of_eq ?_; (try simp only [go_sem]); try rfl) | ((try simp only [go_sem]); try rfl))
          · have qi' : eqS op ⟨#[105, 110, 100, 101, 120]⟩ = false := qi
            rcases Bool.eq_false_or_eq_true (eqS op n_update) with qu | qu
            · have qu' : eqS op ⟨#[117, 112, 100, 97, 116, 101]⟩ = true := qu
              have e2 : otL op l i ++ [l.getD i nilA] = otL op l (i + 1) := by rw [otL_succ, otE_one hone (by unfold selS; rw [qi, qu]; rfl)]
              repeat' (first
               | (with_reducible first | refine t_seq fun K => ?_ | refine t_block ?_ | refine t_scope ?_ | refine t_label ?_ | refine t_skip ?_ | refine t_exit ?_ | refine t_ret ?_ | refine t_k ?_ | refine t_gF ?_ | exact kp_nil | exact Kp.refl _ | exact kp_to | refine kp_cons ?_ | refine kp_arr ?_ | refine kp_app ?_ | refine t_p ?_ | refine t_br (fun hc => ?_) fun hc => ?_)
               | ((with_reducible first | refine t_kE (t_openE ?_) | refine t_kD (t_openD ?_) | refine t_kE ?_ | refine t_kD ?_ | refine t_gS ?_ | refine t_kL ?_ | refine t_kLF ?_ ?_ | refine t_region fun K => ?_ | refine t_cond fun A B => ?_ | refine t_draw (by kernel_rfl) fun K => ?_); (try (first | refine t_hideE fun KL => ?_ | refine t_hideD fun KL => ?_)); simp only [go_sem, geff, kp13, g3, hbad, hone, Int.toNat_natCast, con36_f, con38_f, con39_f, con40_f, con47_f, con49_f, con36_c, con49_c, arrs_length, arrV_def', arrOf_agg, slK_sl, arr_eta, arrs_app1, qi', qu'])
               | ((with_reducible refine kp_skip ?_ ?_); rfl) | simp only [thenQ, blockQ, scopeQ, Nat.reduceEqDiff, reduceIte] | (with_reducible first | refine And.intro ?_ ?_ | intro vr))
              all_goals try (first | (with_reducible assumption) | (intros; (try simp only [Bool.and_eq_true, Bool.or_eq_true, Bool.or_eq_false_iff, Bool.not_eq_true', Bool.not_eq_false', decide_eq_true_eq, decide_eq_false_iff_not, beq_iff_eq, beq_eq_false_iff_ne, bne_iff_ne, bne_eq_false_iff_eq, ne_eq, inI64, List.length_append] at *) <;> omega))
              simp only [e2]
              refine ⟨⟨⟨i + 1, v + 1⟩, by simp only; omega, hnx⟩, by first | (simp only; omega) | omega, ?_⟩
              simp only [updL_nil, updL_cons, delF_top, delF_upd, Nat.reduceEqDiff, reduceIte]
              refine le_backD (by first | rfl | (simp only [go_sem]; try rfl)) (by first | exact Nat.zero_le _ | simp) (by first | rfl | simp [lowO, low_lit, low_sl, low_ref, low_arr]) ?_ ?_
              · repeat' (first | exact low_top | (refine low_upd rfl ?_))
              repeat' (first | exact leF_top _ | exact (fun _ => LeR.refl _) | (with_reducible refine leF_sl ?_ ?_) | (refine leF_upd ?_ ?_))
              all_goals (first | exact LeR.top _ | exact LeR.refl _ | (refine LeR.of_eq ?_; (try simp only [go_sem]); try rfl) | ((try simp only [go_sem]); try rfl))
            · have qu' : eqS op ⟨#[117, 112, 100, 97, 116, 101]⟩ = false := qu
              have e2 : otL op l i ++ [oppA (l.getD i nilA)] = otL op l (i + 1) := by rw [otL_succ, otE_opp (.inr (by unfold selS; rw [qi, qu]; rfl))]
              repeat' (first
               | (with_reducible first | refine t_seq fun K => ?_ | refine t_block ?_ | refine t_scope ?_ | refine t_label ?_ | refine t_skip ?_ | refine t_exit ?_ | refine t_ret ?_ | refine t_k ?_ | refine t_gF ?_ | exact kp_nil | exact Kp.refl _ | exact kp_to | refine kp_cons ?_ | refine kp_arr ?_ | refine kp_app ?_ | refine t_p ?_ | refine t_br (fun hc => ?_) fun hc => ?_)
               | ((with_reducible first | refine t_kE (t_openE ?_) | refine t_kD (t_openD ?_) | refine t_kE ?_ | refine t_kD ?_ | refine t_gS ?_ | refine t_kL ?_ | refine t_kLF ?_ ?_ | refine t_region fun K => ?_ | refine t_cond fun A B => ?_ | refine t_draw (by kernel_rfl) fun K => ?_); (try (first | refine t_hideE fun KL => ?_ | refine t_hideD fun KL => ?_)); simp only [go_sem, geff, kp13, g3, hbad, hone, Int.toNat_natCast, con36_f, con38_f, con39_f, con40_f, con47_f, con49_f, con36_c, con49_c, arrs_length, arrV_def', arrOf_agg, slK_sl, arr_eta, arrs_app1, qi', qu'])
               | ((with_reducible refine kp_skip ?_ ?_); rfl) | simp only [thenQ, blockQ, scopeQ, Nat.reduceEqDiff, reduceIte] | (with_reducible first | refine And.intro ?_ ?_ | intro vr))
              all_goals try (first | (with_reducible assumption) | (intros; (try simp only [Bool.and_eq_true, Bool.or_eq_true, Bool.or_eq_false_iff, Bool.not_eq_true', Bool.not_eq_false', decide_eq_true_eq, decide_eq_false_iff_not, beq_iff_eq, beq_eq_false_iff_ne, bne_iff_ne, bne_eq_false_iff_eq, ne_eq, inI64, List.length_append] at *) <;> omega))
              simp only [e2]
              refine ⟨⟨⟨i + 1, v + 1⟩, by simp only; omega, hnx⟩, by first | (simp only; omega) | omega, ?_⟩
              simp only [updL_nil, updL_cons, delF_top, delF_upd, Nat.reduceEqDiff, reduceIte]
              refine le_backD (by first | rfl | (simp only [go_sem]; try rfl)) (by first | exact Nat.zero_le _ | simp) (by first | rfl | simp [lowO, low_lit, low_sl, low_ref, low_arr]) ?_ ?_
              · repeat' (first | exact low_top | (refine low_upd rfl ?_))
              repeat' (first | exact leF_top _ | exact (fun _ => LeR.refl _) | (with_reducible refine leF_sl ?_ ?_) | (refine leF_upd ?_ ?_))
              all_goals (first | exact LeR.top _ | exact LeR.refl _ | (refine LeR.of_eq ?_; (try simp only [go_sem]); try rfl) | ((try simp only [go_sem]); try rfl))
    · have hie : i = l.length := by omega
      have g3 : decide ((l.length : Int) < (l.length : Int)) = false := decide_eq_false (by omega)
      have hot := hot fun a ha => by
        obtain ⟨j, hj, rfl⟩ := List.getElem_of_mem ha
        have := hpre j (by omega)
        rwa [List.getD_eq_getElem?_getD, List.getElem?_eq_getElem hj] at this
      have k1 := hot.1
      have k2 := hot.2.1
      have hol := otL_len (op := op) (l := l) l.length
      have hok2 : ∀ a ∈ otL op l l.length, okA a := fun a ha => by
        obtain ⟨j, hj, rfl⟩ := List.mem_map.1 ha
        rw [List.mem_range] at hj
        have hm : l.getD j nilA ∈ l := by rw [List.getD_eq_getElem?_getD, List.getElem?_eq_getElem hj]; exact List.getElem_mem hj
        have := hok _ hm
        exact ⟨by rw [otE_d]; exact this.1, by rw [otE_len]; exact this.2⟩
      cases he : (R.2.2 != 0) with
      | true =>
        repeat' (first
         | (with_reducible first | refine t_seq fun K => ?_ | refine t_block ?_ | refine t_scope ?_ | refine t_label ?_ | refine t_skip ?_ | refine t_exit ?_ | refine t_ret ?_ | refine t_k ?_ | refine t_gF ?_ | exact kp_nil | exact Kp.refl _ | exact kp_to | refine kp_cons ?_ | refine kp_arr ?_ | refine kp_app ?_ | refine t_p ?_ | refine t_br (fun hc => ?_) fun hc => ?_)
         | ((with_reducible first | refine t_kE (t_openE ?_) | refine t_kD (t_openD ?_) | refine t_kE ?_ | refine t_kD ?_ | refine t_gS ?_ | refine t_kL ?_ | refine t_kLF ?_ ?_ | refine t_region fun K => ?_ | refine t_cond fun A B => ?_ | refine t_draw (by kernel_rfl) fun K => ?_); (try (first | refine t_hideE fun KL => ?_ | refine t_hideD fun KL => ?_)); simp only [go_sem, geff, kp13, hie, g3, Int.toNat_natCast, con36_f, con38_f, con39_f, con40_f, con47_f, con49_f, con40_c, con47_c, con49_c, arrs_length, arrV_def', arrOf_agg, appV_def, arrsOf_sl, slK_sl, hR, hR2, k1, k2, he, beq_self_eq_true])
         | ((with_reducible refine kp_skip ?_ ?_); rfl) | simp only [thenQ, blockQ, scopeQ, Nat.reduceEqDiff, reduceIte] | (with_reducible first | refine And.intro ?_ ?_ | intro vr))
        all_goals try (first | exact hok _ (by assumption) | exact hok2 _ (by assumption))
        all_goals try (first | (with_reducible assumption) | (intros; (try simp only [Bool.and_eq_true, Bool.or_eq_true, Bool.or_eq_false_iff, Bool.not_eq_true', Bool.not_eq_false', decide_eq_true_eq, decide_eq_false_iff_not, beq_iff_eq, beq_eq_false_iff_ne, bne_iff_ne, bne_eq_false_iff_eq, ne_eq, inI64, List.length_append] at *) <;> omega))
        all_goals ((first | refine end_retE ?_ | refine end_normE ?_); simp only [fin, go_sem])
        exact LeA.refl _
      | false =>
        have k3 := hot.2.2 (by simpa using he)
        have k4 := k3.1
        have k5 : sameA (oppA R.1) (oppA R.1) = true := by unfold sameA; rw [k3.2, eqA_refl]; rfl
        have k6 : okA (oppA R.1) := by rw [← k4]; exact ho2
        repeat' (first
         | (with_reducible first | refine t_seq fun K => ?_ | refine t_block ?_ | refine t_scope ?_ | refine t_label ?_ | refine t_skip ?_ | refine t_exit ?_ | refine t_ret ?_ | refine t_k ?_ | refine t_gF ?_ | exact kp_nil | exact Kp.refl _ | exact kp_to | refine kp_cons ?_ | refine kp_arr ?_ | refine kp_app ?_ | refine t_p ?_ | refine t_br (fun hc => ?_) fun hc => ?_)
         | ((with_reducible first | refine t_kE (t_openE ?_) | refine t_kD (t_openD ?_) | refine t_kE ?_ | refine t_kD ?_ | refine t_gS ?_ | refine t_kL ?_ | refine t_kLF ?_ ?_ | refine t_region fun K => ?_ | refine t_cond fun A B => ?_ | refine t_draw (by kernel_rfl) fun K => ?_); (try (first | refine t_hideE fun KL => ?_ | refine t_hideD fun KL => ?_)); simp only [go_sem, geff, kp13, hie, g3, Int.toNat_natCast, con36_f, con38_f, con39_f, con40_f, con47_f, con49_f, con40_c, con47_c, con49_c, arrs_length, arrV_def', arrOf_agg, arr_eta, appV_def, arrsOf_sl, slK_sl, hR, hR2, k1, k2, k4, k5, he, beq_self_eq_true])
         | ((with_reducible refine kp_skip ?_ ?_); rfl) | simp only [thenQ, blockQ, scopeQ, Nat.reduceEqDiff, reduceIte] | (with_reducible first | refine And.intro ?_ ?_ | intro vr))
        all_goals try (first | exact hok _ (by assumption) | exact hok2 _ (by assumption) | exact k6 | exact ho1.2)
        all_goals try (first | (with_reducible assumption) | (intros; (try simp only [Bool.and_eq_true, Bool.or_eq_true, Bool.or_eq_false_iff, Bool.not_eq_true', Bool.not_eq_false', decide_eq_true_eq, decide_eq_false_iff_not, beq_iff_eq, beq_eq_false_iff_ne, bne_iff_ne, bne_eq_false_iff_eq, ne_eq, inI64, List.length_append] at *) <;> omega))
        all_goals ((first | refine end_retE ?_ | refine end_normE ?_); simp only [fin, go_sem])
        exact LeA.refl _
theorem ren_law : ∀ xs, ShL Try.prog Try.f13.params.toList xs → PC Try.prog 13 xs (.lit (.bool true))
  | [x, y, z], h => by
    obtain ⟨op, rfl, _⟩ := shv_str u9 h.1
    obtain ⟨ns, num, rfl, _⟩ := shv_nums h.2.1
    obtain ⟨l, rfl, hl, _⟩ := shv_arrs h.2.2.1
    exact ren_law_pc (by simpa [maxLen] using hl)
  | [], h => h.elim
  | [_], h => h.2.elim
  | [_, _], h => h.2.2.elim
  | _ :: _ :: _ :: _ :: _, h => h.2.2.2.elim
end Go.Proofs.Ytjlcbojpiieafaa
