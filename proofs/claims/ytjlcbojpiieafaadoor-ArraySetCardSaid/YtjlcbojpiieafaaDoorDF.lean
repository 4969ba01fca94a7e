/- A number of one digit is appended. -/
import Derived.Test.YtjlcbojpiieafaaDoorDE

set_option linter.all false

namespace Go.Proofs.YtjlcbojpiieafaaDoor
open Go Go.Fw

def digS (n : Int) : ByteArray := ⟨#[UInt8.ofNat (48 + n.toNat)]⟩
theorem fk43 : fok Tryd.prog 43 = true := by kernel_rfl
theorem fk45 : fok Tryd.prog 45 = true := by kernel_rfl
theorem fk46 : fok Tryd.prog 46 = true := by kernel_rfl
theorem digit {n : Int} (h : 0 ≤ n ∧ n < 10) : n = 0 ∨ n = 1 ∨ n = 2 ∨ n = 3 ∨ n = 4 ∨ n = 5 ∨ n = 6 ∨ n = 7 ∨ n = 8 ∨ n = 9 := by omega
theorem wrapu (n : Int) (h : 0 ≤ n ∧ n < 10) : IntKind.u64.wrap n = n := by
  rcases digit h with rfl | rfl | rfl | rfl | rfl | rfl | rfl | rfl | rfl | rfl <;> rfl
theorem bytes_dig {n : Int} (h : 0 ≤ n ∧ n < 10) : bytesI (digS n) = [48 + n] := by
  rcases digit h with rfl | rfl | rfl | rfl | rfl | rfl | rfl | rfl | rfl | rfl <;> rfl
set_option maxRecDepth 20000 in
theorem small_pc {n : Int} (h : 0 ≤ n ∧ n < 10) : PC Tryd.prog 46 [.lit (.int .i64 n)] (.lit (.string (digS n))) := by
  have g1 : decide (n < 10) = true := decide_eq_true h.2
  refine pc_of E0_ok mixed (fun _ => [0, 2, 4]) Tryd.func46 rfl (by kernel_rfl) (Nat.le_of_ble_eq_true rfl) ?_
  simp only [initF_cons, initF_nil, Nat.reduceAdd]
  refine t_name fun KF => ?_
  unfold E0
  repeat' (first
    | with_reducible refine t_seq fun K => ?_
    | with_reducible refine t_block ?_
    | with_reducible refine t_scope ?_
    | with_reducible refine t_label ?_
    | with_reducible refine t_skip ?_
    | with_reducible refine t_exit ?_
    | with_reducible refine t_ret ?_
    | with_reducible refine t_k ?_
    | (with_reducible refine t_gF ?_)
    | ((first | with_reducible refine t_kE ?_ | with_reducible refine t_kD ?_ | with_reducible refine t_gS ?_ | with_reducible refine t_kL ?_ | (with_reducible refine t_kLE ?_ ?_; rotate_left) | with_reducible refine t_region fun K => ?_ | with_reducible refine t_draw (by kernel_rfl) fun K => ?_); simp only [go_sem, Int.cast_ofNat_Int, Nat.reduceEqDiff, reduceIte, Nat.reduceAdd, Nat.reduceMul, Nat.reduceLeDiff, Nat.reduceSub, Nat.reduceLT, Nat.zero_lt_succ, Int.reduceToNat, Int.reduceAdd, Int.reduceSub, Int.reduceMul, Int.reduceNeg, Int.reduceLT, Int.reduceLE, Int.reduceEq, Int.reduceBEq, Int.reduceBNe, Nat.reduceBEq, List.reduceReplicate, g1])
    | (with_reducible exact kp_nil)
    | (with_reducible exact Kp.refl _)
    | (with_reducible exact kp_to)
    | (with_reducible refine kp_cons ?_)
    | (with_reducible refine kp_arr ?_)
    | (with_reducible refine kp_app ?_)
    | ((with_reducible refine kp_skip ?_ ?_); rfl)
    | ((with_reducible refine t_cond fun A B => ?_); simp only [go_sem, Int.cast_ofNat_Int, Nat.reduceEqDiff, reduceIte, Nat.reduceAdd, Nat.reduceMul, Nat.reduceLeDiff, Nat.reduceSub, Nat.reduceLT, Nat.zero_lt_succ, Int.reduceToNat, Int.reduceAdd, Int.reduceSub, Int.reduceMul, Int.reduceNeg, Int.reduceLT, Int.reduceLE, Int.reduceEq, Int.reduceBEq, Int.reduceBNe, Nat.reduceBEq, List.reduceReplicate, g1]; first | (with_reducible refine A.h ?_) | (with_reducible refine B.h ?_) | refine And.intro (fun hc => A.h ?_) (fun hc => B.h ?_))
    | simp only [thenQ_n, thenQ_r, thenQ_e, blockQ_n, blockQ_r, blockQ_e, scopeQ_n, scopeQ_r, scopeQ_e, Nat.reduceEqDiff, reduceIte]
    | (with_reducible refine And.intro ?_ ?_)
    | with_reducible intro vr)
  all_goals try (intros; (try simp only [Bool.and_eq_true, Bool.or_eq_true, Bool.not_eq_true', decide_eq_true_eq, decide_eq_false_iff_not, beq_iff_eq, bne_iff_ne, ne_eq, inI64, List.length_append] at *) <;> omega)
  · simp; omega
  · skip
    refine end_ret rfl ?_
    simp only [fin, go_sem, Int.cast_ofNat_Int, Nat.reduceEqDiff, reduceIte, Nat.reduceAdd, Nat.reduceMul, Nat.reduceLeDiff, Nat.reduceSub, Nat.reduceLT, Nat.zero_lt_succ, Int.reduceToNat, Int.reduceAdd, Int.reduceSub, Int.reduceMul, Int.reduceNeg, Int.reduceLT, Int.reduceLE, Int.reduceEq, Int.reduceBEq, Int.reduceBNe, Nat.reduceBEq, List.reduceReplicate]
    apply LeA.of_eq
    rcases digit h with rfl | rfl | rfl | rfl | rfl | rfl | rfl | rfl | rfl | rfl <;> rfl
noncomputable def con46 : PCon Tryd.prog where
  f := 46
  c := fun
    | [.lit (.int .i64 n)] => some (0 ≤ n ∧ n < 10, .lit (.string (digS n)))
    | _ => none
  ok := by
    intro args p r hc hp
    split at hc
    · cases hc; exact ((fun hp : _ => small_pc hp) hp)
    · cases hc
  fk := fk46
theorem con46_f : con46.f = 46 := rfl
theorem con46_c {n : Int} : con46.c [.lit (.int .i64 n)] = some (0 ≤ n ∧ n < 10, .lit (.string (digS n))) := rfl
theorem withK_inv {k : IntKind} {xs : List AV} {p : List Int → Prop} (h : withK k xs p) : ∃ l, xs = ints k l ∧ p l := by
  unfold withK at h
  cases hx : kOf k xs with
  | none => rw [hx] at h; exact h.elim
  | some l => rw [hx] at h; exact ⟨l, kOf_inv hx, h⟩
noncomputable def E44 : Env := envOf (P := Tryd.prog) zer (fun _ => false) (fun _ => false) [con46] []
theorem E44_ok : EnvOk Tryd.prog E44 := envOk zer_ok
set_option maxRecDepth 20000 in
theorem a45_ec {σ : List AObj} {o ver : Nat} {l : List Int} {n : Int} (ho : σ[o]? = some (.arr 5 1 (ints .u8 l) ver false)) (hl : l.length ≤ 1000) (h : 0 ≤ n ∧ n < 10) {k : AV → List AObj → Prop}
    (hk : k (.arr o (ver + 1)) (σ.set o (.arr 5 1 (ints .u8 (l ++ [48 + n])) (ver + 1) false))) : EC Tryd.prog 45 [.arr o ver, .lit (.int .u64 n), .lit (.int .i64 10)] σ k := by
  have g1 : decide (n < 100) = true := decide_eq_true (by omega)
  have w1 : IntKind.i64.wrap n = n := wrap_i64 (by unfold inI64; omega)
  have hb := bytes_dig h
  refine ec_of E44_ok mixed (fun _ => [0, 1, 2, 6, 7, 8, 10, 12]) Tryd.func45 rfl (by kernel_rfl) (Nat.le_of_ble_eq_true rfl) ?_
  simp only [initF_cons, initF_nil, Nat.reduceAdd]
  refine t_name fun KF => ?_
  unfold E44
  repeat' (first
    | with_reducible refine t_seq fun K => ?_
    | with_reducible refine t_block ?_
    | with_reducible refine t_scope ?_
    | with_reducible refine t_label ?_
    | with_reducible refine t_skip ?_
    | with_reducible refine t_exit ?_
    | with_reducible refine t_ret ?_
    | with_reducible refine t_k ?_
    | (with_reducible refine t_gF ?_)
    | ((first | with_reducible refine t_kE ?_ | with_reducible refine t_kD ?_ | with_reducible refine t_gS ?_ | with_reducible refine t_kL ?_ | (with_reducible refine t_kLE ?_ ?_; rotate_left) | with_reducible refine t_region fun K => ?_ | with_reducible refine t_draw (by kernel_rfl) fun K => ?_); simp only [go_sem, Int.cast_ofNat_Int, Nat.reduceEqDiff, reduceIte, Nat.reduceAdd, Nat.reduceMul, Nat.reduceLeDiff, Nat.reduceSub, Nat.reduceLT, Nat.zero_lt_succ, Int.reduceToNat, Int.reduceAdd, Int.reduceSub, Int.reduceMul, Int.reduceNeg, Int.reduceLT, Int.reduceLE, Int.reduceEq, Int.reduceBEq, Int.reduceBNe, Nat.reduceBEq, List.reduceReplicate, con46_f, con46_c, ho, g1, w1, hb])
    | (with_reducible exact kp_nil)
    | (with_reducible exact Kp.refl _)
    | (with_reducible exact kp_to)
    | (with_reducible refine kp_cons ?_)
    | (with_reducible refine kp_arr ?_)
    | (with_reducible refine kp_app ?_)
    | ((with_reducible refine kp_skip ?_ ?_); rfl)
    | ((with_reducible refine t_cond fun A B => ?_); simp only [go_sem, Int.cast_ofNat_Int, Nat.reduceEqDiff, reduceIte, Nat.reduceAdd, Nat.reduceMul, Nat.reduceLeDiff, Nat.reduceSub, Nat.reduceLT, Nat.zero_lt_succ, Int.reduceToNat, Int.reduceAdd, Int.reduceSub, Int.reduceMul, Int.reduceNeg, Int.reduceLT, Int.reduceLE, Int.reduceEq, Int.reduceBEq, Int.reduceBNe, Nat.reduceBEq, List.reduceReplicate, con46_f, con46_c, ho, g1, w1, hb]; first | (with_reducible refine A.h ?_) | (with_reducible refine B.h ?_) | refine And.intro (fun hc => A.h ?_) (fun hc => B.h ?_))
    | simp only [thenQ_n, thenQ_r, thenQ_e, blockQ_n, blockQ_r, blockQ_e, scopeQ_n, scopeQ_r, scopeQ_e, Nat.reduceEqDiff, reduceIte]
    | (with_reducible refine And.intro ?_ ?_)
    | with_reducible intro vr)
  all_goals try (intros; (try simp only [Bool.and_eq_true, Bool.or_eq_true, Bool.not_eq_true', decide_eq_true_eq, decide_eq_false_iff_not, beq_iff_eq, bne_iff_ne, ne_eq, inI64, List.length_append] at *) <;> omega)
  all_goals try exact h
  refine end_ret rfl ?_
  simp only [go_sem, Int.cast_ofNat_Int, Nat.reduceEqDiff, reduceIte, Nat.reduceAdd, Nat.reduceMul, Nat.reduceLeDiff, Nat.reduceSub, Nat.reduceLT, Nat.zero_lt_succ, Int.reduceToNat, Int.reduceAdd, Int.reduceSub, Int.reduceMul, Int.reduceNeg, Int.reduceLT, Int.reduceLE, Int.reduceEq, Int.reduceBEq, Int.reduceBNe, Nat.reduceBEq, List.reduceReplicate]
  exact hk
set_option maxRecDepth 20000 in
theorem b45_ec {σ : List AObj} {l : List Int} {n : Int} (hl : l.length ≤ 1000) (h : 0 ≤ n ∧ n < 10) {k : AV → List AObj → Prop}
    (hk : k (.arr σ.length 0) (σ ++ [.arr 5 1 (ints .u8 (l ++ [48 + n])) 0 false])) : EC Tryd.prog 45 [.sl true 1 (ints .u8 l), .lit (.int .u64 n), .lit (.int .i64 10)] σ k := by
  have g1 : decide (n < 100) = true := decide_eq_true (by omega)
  have w1 : IntKind.i64.wrap n = n := wrap_i64 (by unfold inI64; omega)
  have hb := bytes_dig h
  refine ec_of E44_ok mixed (fun _ => [0, 1, 2, 6, 7, 8, 10, 12]) Tryd.func45 rfl (by kernel_rfl) (Nat.le_of_ble_eq_true rfl) ?_
  simp only [initF_cons, initF_nil, Nat.reduceAdd]
  refine t_name fun KF => ?_
  unfold E44
  repeat' (first
    | with_reducible refine t_seq fun K => ?_
    | with_reducible refine t_block ?_
    | with_reducible refine t_scope ?_
    | with_reducible refine t_label ?_
    | with_reducible refine t_skip ?_
    | with_reducible refine t_exit ?_
    | with_reducible refine t_ret ?_
    | with_reducible refine t_k ?_
    | (with_reducible refine t_gF ?_)
    | ((first | with_reducible refine t_kE ?_ | with_reducible refine t_kD ?_ | with_reducible refine t_gS ?_ | with_reducible refine t_kL ?_ | (with_reducible refine t_kLE ?_ ?_; rotate_left) | with_reducible refine t_region fun K => ?_ | with_reducible refine t_draw (by kernel_rfl) fun K => ?_); simp only [go_sem, Int.cast_ofNat_Int, Nat.reduceEqDiff, reduceIte, Nat.reduceAdd, Nat.reduceMul, Nat.reduceLeDiff, Nat.reduceSub, Nat.reduceLT, Nat.zero_lt_succ, Int.reduceToNat, Int.reduceAdd, Int.reduceSub, Int.reduceMul, Int.reduceNeg, Int.reduceLT, Int.reduceLE, Int.reduceEq, Int.reduceBEq, Int.reduceBNe, Nat.reduceBEq, List.reduceReplicate, con46_f, con46_c, g1, w1, hb])
    | (with_reducible exact kp_nil)
    | (with_reducible exact Kp.refl _)
    | (with_reducible exact kp_to)
    | (with_reducible refine kp_cons ?_)
    | (with_reducible refine kp_arr ?_)
    | (with_reducible refine kp_app ?_)
    | ((with_reducible refine kp_skip ?_ ?_); rfl)
    | ((with_reducible refine t_cond fun A B => ?_); simp only [go_sem, Int.cast_ofNat_Int, Nat.reduceEqDiff, reduceIte, Nat.reduceAdd, Nat.reduceMul, Nat.reduceLeDiff, Nat.reduceSub, Nat.reduceLT, Nat.zero_lt_succ, Int.reduceToNat, Int.reduceAdd, Int.reduceSub, Int.reduceMul, Int.reduceNeg, Int.reduceLT, Int.reduceLE, Int.reduceEq, Int.reduceBEq, Int.reduceBNe, Nat.reduceBEq, List.reduceReplicate, con46_f, con46_c, g1, w1, hb]; first | (with_reducible refine A.h ?_) | (with_reducible refine B.h ?_) | refine And.intro (fun hc => A.h ?_) (fun hc => B.h ?_))
    | simp only [thenQ_n, thenQ_r, thenQ_e, blockQ_n, blockQ_r, blockQ_e, scopeQ_n, scopeQ_r, scopeQ_e, Nat.reduceEqDiff, reduceIte]
    | (with_reducible refine And.intro ?_ ?_)
    | with_reducible intro vr)
  all_goals try (intros; (try simp only [Bool.and_eq_true, Bool.or_eq_true, Bool.not_eq_true', decide_eq_true_eq, decide_eq_false_iff_not, beq_iff_eq, bne_iff_ne, ne_eq, inI64, List.length_append] at *) <;> omega)
  all_goals try exact h
  refine end_ret rfl ?_
  simp only [go_sem, Int.cast_ofNat_Int, Nat.reduceEqDiff, reduceIte, Nat.reduceAdd, Nat.reduceMul, Nat.reduceLeDiff, Nat.reduceSub, Nat.reduceLT, Nat.zero_lt_succ, Int.reduceToNat, Int.reduceAdd, Int.reduceSub, Int.reduceMul, Int.reduceNeg, Int.reduceLT, Int.reduceLE, Int.reduceEq, Int.reduceBEq, Int.reduceBNe, Nat.reduceBEq, List.reduceReplicate]
  exact hk
noncomputable def con45 : ECon Tryd.prog where
  f := 45
  c := fun args σ k => match args with
    | [.arr o ver, .lit (.int .u64 n), .lit (.int .i64 10)] => arrAt 5 1 σ o ver fun xs => withK .u8 xs fun l => (l.length ≤ 1000 ∧ 0 ≤ n ∧ n < 10) ∧ k (.arr o (ver + 1)) (σ.set o (.arr 5 1 (ints .u8 (l ++ [48 + n])) (ver + 1) false))
    | [.sl true 1 xs, .lit (.int .u64 n), .lit (.int .i64 10)] => withK .u8 xs fun l => (l.length ≤ 1000 ∧ 0 ≤ n ∧ n < 10) ∧ k (.arr σ.length 0) (σ ++ [.arr 5 1 (ints .u8 (l ++ [48 + n])) 0 false])
    | _ => False
  ok := by
    intro args σ k hh
    split at hh
    · obtain ⟨xs, ho, h2⟩ := arrAt_inv hh
      obtain ⟨l, rfl, h3⟩ := withK_inv h2
      exact a45_ec ho h3.1.1 h3.1.2 h3.2
    · obtain ⟨l, rfl, h3⟩ := withK_inv hh
      exact b45_ec h3.1.1 h3.1.2 h3.2
    · exact hh.elim
  fk := fk45
theorem con45_f : con45.f = 45 := rfl
theorem con45_a {σ : List AObj} {k : AV → List AObj → Prop} {o ver : Nat} {n : Int} : con45.c [.arr o ver, .lit (.int .u64 n), .lit (.int .i64 10)] σ k = arrAt 5 1 σ o ver fun xs => withK .u8 xs fun l => (l.length ≤ 1000 ∧ 0 ≤ n ∧ n < 10) ∧ k (.arr o (ver + 1)) (σ.set o (.arr 5 1 (ints .u8 (l ++ [48 + n])) (ver + 1) false)) := rfl
theorem con45_b {σ : List AObj} {k : AV → List AObj → Prop} {xs : List AV} {n : Int} : con45.c [.sl true 1 xs, .lit (.int .u64 n), .lit (.int .i64 10)] σ k = withK .u8 xs fun l => (l.length ≤ 1000 ∧ 0 ≤ n ∧ n < 10) ∧ k (.arr σ.length 0) (σ ++ [.arr 5 1 (ints .u8 (l ++ [48 + n])) 0 false]) := rfl
noncomputable def E45 : Env := envOf (P := Tryd.prog) zer (fun _ => false) (fun _ => false) [] [con45]
theorem E45_ok : EnvOk Tryd.prog E45 := envOk zer_ok
set_option maxRecDepth 20000 in
theorem a43_ec {σ : List AObj} {o ver : Nat} {l : List Int} {n : Int} (ho : σ[o]? = some (.arr 5 1 (ints .u8 l) ver false)) (hl : l.length ≤ 1000) (h : 0 ≤ n ∧ n < 10) {k : AV → List AObj → Prop}
    (hk : k (.arr o (ver + 1)) (σ.set o (.arr 5 1 (ints .u8 (l ++ [48 + n])) (ver + 1) false))) : EC Tryd.prog 43 [.arr o ver, .lit (.int .i64 n), .lit (.int .i64 10)] σ k := by
  have g1 : decide (n < 0) = false := decide_eq_false (by omega)
  have w1 : IntKind.u64.wrap n = n := wrapu n h
  refine ec_of E45_ok mixed (fun _ => [0, 1, 2, 6, 7, 11]) Tryd.func43 rfl (by kernel_rfl) (Nat.le_of_ble_eq_true rfl) ?_
  simp only [initF_cons, initF_nil, Nat.reduceAdd]
  refine t_name fun KF => ?_
  unfold E45
  repeat' (first
    | with_reducible refine t_seq fun K => ?_
    | with_reducible refine t_block ?_
    | with_reducible refine t_scope ?_
    | with_reducible refine t_label ?_
    | with_reducible refine t_skip ?_
    | with_reducible refine t_exit ?_
    | with_reducible refine t_ret ?_
    | with_reducible refine t_k ?_
    | (with_reducible refine t_gF ?_)
    | ((first | with_reducible refine t_kE ?_ | with_reducible refine t_kD ?_ | with_reducible refine t_gS ?_ | with_reducible refine t_kL ?_ | (with_reducible refine t_kLE ?_ ?_; rotate_left) | with_reducible refine t_region fun K => ?_ | with_reducible refine t_draw (by kernel_rfl) fun K => ?_); simp only [go_sem, Int.cast_ofNat_Int, Nat.reduceEqDiff, reduceIte, Nat.reduceAdd, Nat.reduceMul, Nat.reduceLeDiff, Nat.reduceSub, Nat.reduceLT, Nat.zero_lt_succ, Int.reduceToNat, Int.reduceAdd, Int.reduceSub, Int.reduceMul, Int.reduceNeg, Int.reduceLT, Int.reduceLE, Int.reduceEq, Int.reduceBEq, Int.reduceBNe, Nat.reduceBEq, List.reduceReplicate, con45_f, con45_a, arrAt, withK, kOf_ints, ho, g1, w1])
    | (with_reducible exact kp_nil)
    | (with_reducible exact Kp.refl _)
    | (with_reducible exact kp_to)
    | (with_reducible refine kp_cons ?_)
    | (with_reducible refine kp_arr ?_)
    | (with_reducible refine kp_app ?_)
    | ((with_reducible refine kp_skip ?_ ?_); rfl)
    | ((with_reducible refine t_cond fun A B => ?_); simp only [go_sem, Int.cast_ofNat_Int, Nat.reduceEqDiff, reduceIte, Nat.reduceAdd, Nat.reduceMul, Nat.reduceLeDiff, Nat.reduceSub, Nat.reduceLT, Nat.zero_lt_succ, Int.reduceToNat, Int.reduceAdd, Int.reduceSub, Int.reduceMul, Int.reduceNeg, Int.reduceLT, Int.reduceLE, Int.reduceEq, Int.reduceBEq, Int.reduceBNe, Nat.reduceBEq, List.reduceReplicate, con45_f, con45_a, arrAt, withK, kOf_ints, ho, g1, w1]; first | (with_reducible refine A.h ?_) | (with_reducible refine B.h ?_) | refine And.intro (fun hc => A.h ?_) (fun hc => B.h ?_))
    | simp only [thenQ_n, thenQ_r, thenQ_e, blockQ_n, blockQ_r, blockQ_e, scopeQ_n, scopeQ_r, scopeQ_e, Nat.reduceEqDiff, reduceIte]
    | (with_reducible refine And.intro ?_ ?_)
    | with_reducible intro vr)
  all_goals try (intros; (try simp only [Bool.and_eq_true, Bool.or_eq_true, Bool.not_eq_true', decide_eq_true_eq, decide_eq_false_iff_not, beq_iff_eq, bne_iff_ne, ne_eq, inI64, List.length_append] at *) <;> omega)
  all_goals try exact h
  refine end_ret rfl ?_
  simp only [go_sem, Int.cast_ofNat_Int, Nat.reduceEqDiff, reduceIte, Nat.reduceAdd, Nat.reduceMul, Nat.reduceLeDiff, Nat.reduceSub, Nat.reduceLT, Nat.zero_lt_succ, Int.reduceToNat, Int.reduceAdd, Int.reduceSub, Int.reduceMul, Int.reduceNeg, Int.reduceLT, Int.reduceLE, Int.reduceEq, Int.reduceBEq, Int.reduceBNe, Nat.reduceBEq, List.reduceReplicate]
  exact hk
set_option maxRecDepth 20000 in
theorem b43_ec {σ : List AObj} {l : List Int} {n : Int} (hl : l.length ≤ 1000) (h : 0 ≤ n ∧ n < 10) {k : AV → List AObj → Prop}
    (hk : k (.arr σ.length 0) (σ ++ [.arr 5 1 (ints .u8 (l ++ [48 + n])) 0 false])) : EC Tryd.prog 43 [.sl true 1 (ints .u8 l), .lit (.int .i64 n), .lit (.int .i64 10)] σ k := by
  have g1 : decide (n < 0) = false := decide_eq_false (by omega)
  have w1 : IntKind.u64.wrap n = n := wrapu n h
  refine ec_of E45_ok mixed (fun _ => [0, 1, 2, 6, 7, 11]) Tryd.func43 rfl (by kernel_rfl) (Nat.le_of_ble_eq_true rfl) ?_
  simp only [initF_cons, initF_nil, Nat.reduceAdd]
  refine t_name fun KF => ?_
  unfold E45
  repeat' (first
    | with_reducible refine t_seq fun K => ?_
    | with_reducible refine t_block ?_
    | with_reducible refine t_scope ?_
    | with_reducible refine t_label ?_
    | with_reducible refine t_skip ?_
    | with_reducible refine t_exit ?_
    | with_reducible refine t_ret ?_
    | with_reducible refine t_k ?_
    | (with_reducible refine t_gF ?_)
    | ((first | with_reducible refine t_kE ?_ | with_reducible refine t_kD ?_ | with_reducible refine t_gS ?_ | with_reducible refine t_kL ?_ | (with_reducible refine t_kLE ?_ ?_; rotate_left) | with_reducible refine t_region fun K => ?_ | with_reducible refine t_draw (by kernel_rfl) fun K => ?_); simp only [go_sem, Int.cast_ofNat_Int, Nat.reduceEqDiff, reduceIte, Nat.reduceAdd, Nat.reduceMul, Nat.reduceLeDiff, Nat.reduceSub, Nat.reduceLT, Nat.zero_lt_succ, Int.reduceToNat, Int.reduceAdd, Int.reduceSub, Int.reduceMul, Int.reduceNeg, Int.reduceLT, Int.reduceLE, Int.reduceEq, Int.reduceBEq, Int.reduceBNe, Nat.reduceBEq, List.reduceReplicate, con45_f, con45_b, withK, kOf_ints, g1, w1])
    | (with_reducible exact kp_nil)
    | (with_reducible exact Kp.refl _)
    | (with_reducible exact kp_to)
    | (with_reducible refine kp_cons ?_)
    | (with_reducible refine kp_arr ?_)
    | (with_reducible refine kp_app ?_)
    | ((with_reducible refine kp_skip ?_ ?_); rfl)
    | ((with_reducible refine t_cond fun A B => ?_); simp only [go_sem, Int.cast_ofNat_Int, Nat.reduceEqDiff, reduceIte, Nat.reduceAdd, Nat.reduceMul, Nat.reduceLeDiff, Nat.reduceSub, Nat.reduceLT, Nat.zero_lt_succ, Int.reduceToNat, Int.reduceAdd, Int.reduceSub, Int.reduceMul, Int.reduceNeg, Int.reduceLT, Int.reduceLE, Int.reduceEq, Int.reduceBEq, Int.reduceBNe, Nat.reduceBEq, List.reduceReplicate, con45_f, con45_b, withK, kOf_ints, g1, w1]; first | (with_reducible refine A.h ?_) | (with_reducible refine B.h ?_) | refine And.intro (fun hc => A.h ?_) (fun hc => B.h ?_))
    | simp only [thenQ_n, thenQ_r, thenQ_e, blockQ_n, blockQ_r, blockQ_e, scopeQ_n, scopeQ_r, scopeQ_e, Nat.reduceEqDiff, reduceIte]
    | (with_reducible refine And.intro ?_ ?_)
    | with_reducible intro vr)
  all_goals try (intros; (try simp only [Bool.and_eq_true, Bool.or_eq_true, Bool.not_eq_true', decide_eq_true_eq, decide_eq_false_iff_not, beq_iff_eq, bne_iff_ne, ne_eq, inI64, List.length_append] at *) <;> omega)
  all_goals try exact h
  refine end_ret rfl ?_
  simp only [go_sem, Int.cast_ofNat_Int, Nat.reduceEqDiff, reduceIte, Nat.reduceAdd, Nat.reduceMul, Nat.reduceLeDiff, Nat.reduceSub, Nat.reduceLT, Nat.zero_lt_succ, Int.reduceToNat, Int.reduceAdd, Int.reduceSub, Int.reduceMul, Int.reduceNeg, Int.reduceLT, Int.reduceLE, Int.reduceEq, Int.reduceBEq, Int.reduceBNe, Nat.reduceBEq, List.reduceReplicate]
  exact hk
noncomputable def con43 : ECon Tryd.prog where
  f := 43
  c := fun args σ k => match args with
    | [.arr o ver, .lit (.int .i64 n), .lit (.int .i64 10)] => arrAt 5 1 σ o ver fun xs => withK .u8 xs fun l => (l.length ≤ 1000 ∧ 0 ≤ n ∧ n < 10) ∧ k (.arr o (ver + 1)) (σ.set o (.arr 5 1 (ints .u8 (l ++ [48 + n])) (ver + 1) false))
    | [.sl true 1 xs, .lit (.int .i64 n), .lit (.int .i64 10)] => withK .u8 xs fun l => (l.length ≤ 1000 ∧ 0 ≤ n ∧ n < 10) ∧ k (.arr σ.length 0) (σ ++ [.arr 5 1 (ints .u8 (l ++ [48 + n])) 0 false])
    | _ => False
  ok := by
    intro args σ k hh
    split at hh
    · obtain ⟨xs, ho, h2⟩ := arrAt_inv hh
      obtain ⟨l, rfl, h3⟩ := withK_inv h2
      exact a43_ec ho h3.1.1 h3.1.2 h3.2
    · obtain ⟨l, rfl, h3⟩ := withK_inv hh
      exact b43_ec h3.1.1 h3.1.2 h3.2
    · exact hh.elim
  fk := fk43
theorem con43_f : con43.f = 43 := rfl
theorem con43_a {σ : List AObj} {k : AV → List AObj → Prop} {o ver : Nat} {n : Int} : con43.c [.arr o ver, .lit (.int .i64 n), .lit (.int .i64 10)] σ k = arrAt 5 1 σ o ver fun xs => withK .u8 xs fun l => (l.length ≤ 1000 ∧ 0 ≤ n ∧ n < 10) ∧ k (.arr o (ver + 1)) (σ.set o (.arr 5 1 (ints .u8 (l ++ [48 + n])) (ver + 1) false)) := rfl
theorem con43_b {σ : List AObj} {k : AV → List AObj → Prop} {xs : List AV} {n : Int} : con43.c [.sl true 1 xs, .lit (.int .i64 n), .lit (.int .i64 10)] σ k = withK .u8 xs fun l => (l.length ≤ 1000 ∧ 0 ≤ n ∧ n < 10) ∧ k (.arr σ.length 0) (σ ++ [.arr 5 1 (ints .u8 (l ++ [48 + n])) 0 false]) := rfl
noncomputable def E46 : Env := envOf (P := Tryd.prog) zer (fun _ => false) (fun _ => false) [] [con43]
theorem E46_ok : EnvOk Tryd.prog E46 := envOk zer_ok
set_option maxRecDepth 20000 in
theorem a39_ec {σ : List AObj} {o ver : Nat} {l : List Int} {n : Int} (ho : σ[o]? = some (.arr 5 1 (ints .u8 l) ver false)) (hl : l.length ≤ 1000) (h : 0 ≤ n ∧ n < 10) {k : AV → List AObj → Prop}
    (hk : k (.arr o (ver + 1)) (σ.set o (.arr 5 1 (ints .u8 (l ++ [48 + n])) (ver + 1) false))) : EC Tryd.prog 39 [.arr o ver, .lit (.int .i64 n), .lit (.int .i64 10)] σ k := by
  skip
  refine ec_of E46_ok mixed (fun _ => [0, 1, 2, 6]) Tryd.func39 rfl (by kernel_rfl) (Nat.le_of_ble_eq_true rfl) ?_
  simp only [initF_cons, initF_nil, Nat.reduceAdd]
  refine t_name fun KF => ?_
  unfold E46
  repeat' (first
    | with_reducible refine t_seq fun K => ?_
    | with_reducible refine t_block ?_
    | with_reducible refine t_scope ?_
    | with_reducible refine t_label ?_
    | with_reducible refine t_skip ?_
    | with_reducible refine t_exit ?_
    | with_reducible refine t_ret ?_
    | with_reducible refine t_k ?_
    | (with_reducible refine t_gF ?_)
    | ((first | with_reducible refine t_kE ?_ | with_reducible refine t_kD ?_ | with_reducible refine t_gS ?_ | with_reducible refine t_kL ?_ | (with_reducible refine t_kLE ?_ ?_; rotate_left) | with_reducible refine t_region fun K => ?_ | with_reducible refine t_draw (by kernel_rfl) fun K => ?_); simp only [go_sem, Int.cast_ofNat_Int, Nat.reduceEqDiff, reduceIte, Nat.reduceAdd, Nat.reduceMul, Nat.reduceLeDiff, Nat.reduceSub, Nat.reduceLT, Nat.zero_lt_succ, Int.reduceToNat, Int.reduceAdd, Int.reduceSub, Int.reduceMul, Int.reduceNeg, Int.reduceLT, Int.reduceLE, Int.reduceEq, Int.reduceBEq, Int.reduceBNe, Nat.reduceBEq, List.reduceReplicate, con43_f, con43_a, arrAt, withK, kOf_ints, ho])
    | (with_reducible exact kp_nil)
    | (with_reducible exact Kp.refl _)
    | (with_reducible exact kp_to)
    | (with_reducible refine kp_cons ?_)
    | (with_reducible refine kp_arr ?_)
    | (with_reducible refine kp_app ?_)
    | ((with_reducible refine kp_skip ?_ ?_); rfl)
    | ((with_reducible refine t_cond fun A B => ?_); simp only [go_sem, Int.cast_ofNat_Int, Nat.reduceEqDiff, reduceIte, Nat.reduceAdd, Nat.reduceMul, Nat.reduceLeDiff, Nat.reduceSub, Nat.reduceLT, Nat.zero_lt_succ, Int.reduceToNat, Int.reduceAdd, Int.reduceSub, Int.reduceMul, Int.reduceNeg, Int.reduceLT, Int.reduceLE, Int.reduceEq, Int.reduceBEq, Int.reduceBNe, Nat.reduceBEq, List.reduceReplicate, con43_f, con43_a, arrAt, withK, kOf_ints, ho]; first | (with_reducible refine A.h ?_) | (with_reducible refine B.h ?_) | refine And.intro (fun hc => A.h ?_) (fun hc => B.h ?_))
    | simp only [thenQ_n, thenQ_r, thenQ_e, blockQ_n, blockQ_r, blockQ_e, scopeQ_n, scopeQ_r, scopeQ_e, Nat.reduceEqDiff, reduceIte]
    | (with_reducible refine And.intro ?_ ?_)
    | with_reducible intro vr)
  all_goals try (intros; (try simp only [Bool.and_eq_true, Bool.or_eq_true, Bool.not_eq_true', decide_eq_true_eq, decide_eq_false_iff_not, beq_iff_eq, bne_iff_ne, ne_eq, inI64, List.length_append] at *) <;> omega)
  all_goals try exact h
  refine end_ret rfl ?_
  simp only [go_sem, Int.cast_ofNat_Int, Nat.reduceEqDiff, reduceIte, Nat.reduceAdd, Nat.reduceMul, Nat.reduceLeDiff, Nat.reduceSub, Nat.reduceLT, Nat.zero_lt_succ, Int.reduceToNat, Int.reduceAdd, Int.reduceSub, Int.reduceMul, Int.reduceNeg, Int.reduceLT, Int.reduceLE, Int.reduceEq, Int.reduceBEq, Int.reduceBNe, Nat.reduceBEq, List.reduceReplicate]
  exact hk
set_option maxRecDepth 20000 in
theorem b39_ec {σ : List AObj} {l : List Int} {n : Int} (hl : l.length ≤ 1000) (h : 0 ≤ n ∧ n < 10) {k : AV → List AObj → Prop}
    (hk : k (.arr σ.length 0) (σ ++ [.arr 5 1 (ints .u8 (l ++ [48 + n])) 0 false])) : EC Tryd.prog 39 [.sl true 1 (ints .u8 l), .lit (.int .i64 n), .lit (.int .i64 10)] σ k := by
  skip
  refine ec_of E46_ok mixed (fun _ => [0, 1, 2, 6]) Tryd.func39 rfl (by kernel_rfl) (Nat.le_of_ble_eq_true rfl) ?_
  simp only [initF_cons, initF_nil, Nat.reduceAdd]
  refine t_name fun KF => ?_
  unfold E46
  repeat' (first
    | with_reducible refine t_seq fun K => ?_
    | with_reducible refine t_block ?_
    | with_reducible refine t_scope ?_
    | with_reducible refine t_label ?_
    | with_reducible refine t_skip ?_
    | with_reducible refine t_exit ?_
    | with_reducible refine t_ret ?_
    | with_reducible refine t_k ?_
    | (with_reducible refine t_gF ?_)
    | ((first | with_reducible refine t_kE ?_ | with_reducible refine t_kD ?_ | with_reducible refine t_gS ?_ | with_reducible refine t_kL ?_ | (with_reducible refine t_kLE ?_ ?_; rotate_left) | with_reducible refine t_region fun K => ?_ | with_reducible refine t_draw (by kernel_rfl) fun K => ?_); simp only [go_sem, Int.cast_ofNat_Int, Nat.reduceEqDiff, reduceIte, Nat.reduceAdd, Nat.reduceMul, Nat.reduceLeDiff, Nat.reduceSub, Nat.reduceLT, Nat.zero_lt_succ, Int.reduceToNat, Int.reduceAdd, Int.reduceSub, Int.reduceMul, Int.reduceNeg, Int.reduceLT, Int.reduceLE, Int.reduceEq, Int.reduceBEq, Int.reduceBNe, Nat.reduceBEq, List.reduceReplicate, con43_f, con43_b, withK, kOf_ints])
    | (with_reducible exact kp_nil)
    | (with_reducible exact Kp.refl _)
    | (with_reducible exact kp_to)
    | (with_reducible refine kp_cons ?_)
    | (with_reducible refine kp_arr ?_)
    | (with_reducible refine kp_app ?_)
    | ((with_reducible refine kp_skip ?_ ?_); rfl)
    | ((with_reducible refine t_cond fun A B => ?_); simp only [go_sem, Int.cast_ofNat_Int, Nat.reduceEqDiff, reduceIte, Nat.reduceAdd, Nat.reduceMul, Nat.reduceLeDiff, Nat.reduceSub, Nat.reduceLT, Nat.zero_lt_succ, Int.reduceToNat, Int.reduceAdd, Int.reduceSub, Int.reduceMul, Int.reduceNeg, Int.reduceLT, Int.reduceLE, Int.reduceEq, Int.reduceBEq, Int.reduceBNe, Nat.reduceBEq, List.reduceReplicate, con43_f, con43_b, withK, kOf_ints]; first | (with_reducible refine A.h ?_) | (with_reducible refine B.h ?_) | refine And.intro (fun hc => A.h ?_) (fun hc => B.h ?_))
    | simp only [thenQ_n, thenQ_r, thenQ_e, blockQ_n, blockQ_r, blockQ_e, scopeQ_n, scopeQ_r, scopeQ_e, Nat.reduceEqDiff, reduceIte]
    | (with_reducible refine And.intro ?_ ?_)
    | with_reducible intro vr)
  all_goals try (intros; (try simp only [Bool.and_eq_true, Bool.or_eq_true, Bool.not_eq_true', decide_eq_true_eq, decide_eq_false_iff_not, beq_iff_eq, bne_iff_ne, ne_eq, inI64, List.length_append] at *) <;> omega)
  all_goals try exact h
  refine end_ret rfl ?_
  simp only [go_sem, Int.cast_ofNat_Int, Nat.reduceEqDiff, reduceIte, Nat.reduceAdd, Nat.reduceMul, Nat.reduceLeDiff, Nat.reduceSub, Nat.reduceLT, Nat.zero_lt_succ, Int.reduceToNat, Int.reduceAdd, Int.reduceSub, Int.reduceMul, Int.reduceNeg, Int.reduceLT, Int.reduceLE, Int.reduceEq, Int.reduceBEq, Int.reduceBNe, Nat.reduceBEq, List.reduceReplicate]
  exact hk
noncomputable def con39 : ECon Tryd.prog where
  f := 39
  c := fun args σ k => match args with
    | [.arr o ver, .lit (.int .i64 n), .lit (.int .i64 10)] => arrAt 5 1 σ o ver fun xs => withK .u8 xs fun l => (l.length ≤ 1000 ∧ 0 ≤ n ∧ n < 10) ∧ k (.arr o (ver + 1)) (σ.set o (.arr 5 1 (ints .u8 (l ++ [48 + n])) (ver + 1) false))
    | [.sl true 1 xs, .lit (.int .i64 n), .lit (.int .i64 10)] => withK .u8 xs fun l => (l.length ≤ 1000 ∧ 0 ≤ n ∧ n < 10) ∧ k (.arr σ.length 0) (σ ++ [.arr 5 1 (ints .u8 (l ++ [48 + n])) 0 false])
    | _ => False
  ok := by
    intro args σ k hh
    split at hh
    · obtain ⟨xs, ho, h2⟩ := arrAt_inv hh
      obtain ⟨l, rfl, h3⟩ := withK_inv h2
      exact a39_ec ho h3.1.1 h3.1.2 h3.2
    · obtain ⟨l, rfl, h3⟩ := withK_inv hh
      exact b39_ec h3.1.1 h3.1.2 h3.2
    · exact hh.elim
  fk := fk39
theorem con39_f : con39.f = 39 := rfl
theorem con39_a {σ : List AObj} {k : AV → List AObj → Prop} {o ver : Nat} {n : Int} : con39.c [.arr o ver, .lit (.int .i64 n), .lit (.int .i64 10)] σ k = arrAt 5 1 σ o ver fun xs => withK .u8 xs fun l => (l.length ≤ 1000 ∧ 0 ≤ n ∧ n < 10) ∧ k (.arr o (ver + 1)) (σ.set o (.arr 5 1 (ints .u8 (l ++ [48 + n])) (ver + 1) false)) := rfl
theorem con39_b {σ : List AObj} {k : AV → List AObj → Prop} {xs : List AV} {n : Int} : con39.c [.sl true 1 xs, .lit (.int .i64 n), .lit (.int .i64 10)] σ k = withK .u8 xs fun l => (l.length ≤ 1000 ∧ 0 ≤ n ∧ n < 10) ∧ k (.arr σ.length 0) (σ ++ [.arr 5 1 (ints .u8 (l ++ [48 + n])) 0 false]) := rfl
end Go.Proofs.YtjlcbojpiieafaaDoor

/- The text of one array. -/
namespace Go.Proofs.YtjlcbojpiieafaaDoor
open Go Go.Fw

noncomputable def E47 : Env := envOf (P := Tryd.prog) zer (fun _ => false) (fun _ => false) [] [con39]
theorem E47_ok : EnvOk Tryd.prog E47 := envOk zer_ok
set_option maxRecDepth 20000 in
theorem num_a {σ : List AObj} {p o ver : Nat} {l : List Int} {n : Int} (hp : σ[p]? = some (.box 53 [.arr o ver])) (ho : σ[o]? = some (.arr 5 1 (ints .u8 l) ver false)) (hl : l.length ≤ 900) (h : 0 ≤ n ∧ n < 10) {k : AV → List AObj → Prop}
    (hk : k (.tup []) ((σ.set o (.arr 5 1 (ints .u8 (l ++ [32, 48 + n])) (ver + 2) false)).set p (.box 53 [.arr o (ver + 2)]))) : EC Tryd.prog 38 [.lit (.int .i64 n), .lit (.bool true), .ref p 0] σ k := by
  have hne : o ≠ p := fun e => by rw [e, hp] at ho; cases ho
  have hp1 : ∀ x, (σ.set o x)[p]? = some (.box 53 [.arr o ver]) := fun x => by rw [List.getElem?_set_ne hne]; exact hp
  have hp2 : ∀ x y, ((σ.set o x).set p y)[p]? = some y := fun x y => get_set (hp1 x) y
  have ho2 : ∀ x y, ((σ.set o x).set p y)[o]? = some x := fun x y => by rw [List.getElem?_set_ne (fun e => hne e.symm)]; exact get_set ho x
  have hs : ∀ x y z w, (((σ.set o x).set p y).set o z).set p w = (σ.set o z).set p w := fun x y z w => by
    rw [List.set_comm y z (fun e => hne e.symm), List.set_set, List.set_set]
  have hp3 : ∀ x y z, (((σ.set o x).set p y).set o z)[p]? = some y := fun x y z => by rw [List.getElem?_set_ne hne]; exact hp2 x y
  refine ec_of E47_ok mixed (fun _ => [0, 1, 2, 5]) Tryd.func38 rfl (by kernel_rfl) (Nat.le_of_ble_eq_true rfl) ?_
  simp only [initF_cons, initF_nil, Nat.reduceAdd]
  refine t_name fun KF => ?_
  unfold E47
  repeat' (first
    | with_reducible refine t_seq fun K => ?_
    | with_reducible refine t_block ?_
    | with_reducible refine t_scope ?_
    | with_reducible refine t_label ?_
    | with_reducible refine t_skip ?_
    | with_reducible refine t_exit ?_
    | with_reducible refine t_ret ?_
    | with_reducible refine t_k ?_
    | (with_reducible refine t_gF ?_)
    | ((first | with_reducible refine t_kE ?_ | with_reducible refine t_kD ?_ | with_reducible refine t_gS ?_ | with_reducible refine t_kL ?_ | (with_reducible refine t_kLE ?_ ?_; rotate_left) | with_reducible refine t_region fun K => ?_ | with_reducible refine t_draw (by kernel_rfl) fun K => ?_); simp only [go_sem, Int.cast_ofNat_Int, Nat.reduceEqDiff, reduceIte, Nat.reduceAdd, Nat.reduceMul, Nat.reduceLeDiff, Nat.reduceSub, Nat.reduceLT, Nat.zero_lt_succ, Int.reduceToNat, Int.reduceAdd, Int.reduceSub, Int.reduceMul, Int.reduceNeg, Int.reduceLT, Int.reduceLE, Int.reduceEq, Int.reduceBEq, Int.reduceBNe, Nat.reduceBEq, List.reduceReplicate, con39_f, con39_a, arrAt, withK, kOf_ints, hp, ho, hp1, hp2, ho2, hp3, hs, get_set ho])
    | (with_reducible exact kp_nil)
    | (with_reducible exact Kp.refl _)
    | (with_reducible exact kp_to)
    | (with_reducible refine kp_cons ?_)
    | (with_reducible refine kp_arr ?_)
    | (with_reducible refine kp_app ?_)
    | ((with_reducible refine kp_skip ?_ ?_); rfl)
    | ((with_reducible refine t_cond fun A B => ?_); simp only [go_sem, Int.cast_ofNat_Int, Nat.reduceEqDiff, reduceIte, Nat.reduceAdd, Nat.reduceMul, Nat.reduceLeDiff, Nat.reduceSub, Nat.reduceLT, Nat.zero_lt_succ, Int.reduceToNat, Int.reduceAdd, Int.reduceSub, Int.reduceMul, Int.reduceNeg, Int.reduceLT, Int.reduceLE, Int.reduceEq, Int.reduceBEq, Int.reduceBNe, Nat.reduceBEq, List.reduceReplicate, con39_f, con39_a, arrAt, withK, kOf_ints, hp, ho, hp1, hp2, ho2, hp3, hs, get_set ho]; first | (with_reducible refine A.h ?_) | (with_reducible refine B.h ?_) | refine And.intro (fun hc => A.h ?_) (fun hc => B.h ?_))
    | simp only [thenQ_n, thenQ_r, thenQ_e, blockQ_n, blockQ_r, blockQ_e, scopeQ_n, scopeQ_r, scopeQ_e, Nat.reduceEqDiff, reduceIte]
    | (with_reducible refine And.intro ?_ ?_)
    | with_reducible intro vr)
  all_goals try (intros; (try simp only [Bool.and_eq_true, Bool.or_eq_true, Bool.not_eq_true', decide_eq_true_eq, decide_eq_false_iff_not, beq_iff_eq, bne_iff_ne, ne_eq, inI64, List.length_append] at *) <;> omega)
  all_goals try exact h
  refine end_norm rfl ?_
  simpa using hk
set_option maxRecDepth 20000 in
theorem num_b {σ : List AObj} {p : Nat} {l : List Int} {n : Int} (hp : σ[p]? = some (.box 53 [.sl true 1 (ints .u8 l)])) (hl : l.length ≤ 900) (h : 0 ≤ n ∧ n < 10) {k : AV → List AObj → Prop}
    (hk : k (.tup []) (σ.set p (.box 53 [.arr σ.length 0]) ++ [.arr 5 1 (ints .u8 (l ++ [48 + n])) 0 false])) : EC Tryd.prog 38 [.lit (.int .i64 n), .lit (.bool false), .ref p 0] σ k := by
  refine ec_of E47_ok mixed (fun _ => [0, 1, 2, 5]) Tryd.func38 rfl (by kernel_rfl) (Nat.le_of_ble_eq_true rfl) ?_
  simp only [initF_cons, initF_nil, Nat.reduceAdd]
  refine t_name fun KF => ?_
  unfold E47
  repeat' (first
    | with_reducible refine t_seq fun K => ?_
    | with_reducible refine t_block ?_
    | with_reducible refine t_scope ?_
    | with_reducible refine t_label ?_
    | with_reducible refine t_skip ?_
    | with_reducible refine t_exit ?_
    | with_reducible refine t_ret ?_
    | with_reducible refine t_k ?_
    | (with_reducible refine t_gF ?_)
    | ((first | with_reducible refine t_kE ?_ | with_reducible refine t_kD ?_ | with_reducible refine t_gS ?_ | with_reducible refine t_kL ?_ | (with_reducible refine t_kLE ?_ ?_; rotate_left) | with_reducible refine t_region fun K => ?_ | with_reducible refine t_draw (by kernel_rfl) fun K => ?_); simp only [go_sem, Int.cast_ofNat_Int, Nat.reduceEqDiff, reduceIte, Nat.reduceAdd, Nat.reduceMul, Nat.reduceLeDiff, Nat.reduceSub, Nat.reduceLT, Nat.zero_lt_succ, Int.reduceToNat, Int.reduceAdd, Int.reduceSub, Int.reduceMul, Int.reduceNeg, Int.reduceLT, Int.reduceLE, Int.reduceEq, Int.reduceBEq, Int.reduceBNe, Nat.reduceBEq, List.reduceReplicate, con39_f, con39_b, withK, kOf_ints, hp, get_app_of hp, set_app_of hp])
    | (with_reducible exact kp_nil)
    | (with_reducible exact Kp.refl _)
    | (with_reducible exact kp_to)
    | (with_reducible refine kp_cons ?_)
    | (with_reducible refine kp_arr ?_)
    | (with_reducible refine kp_app ?_)
    | ((with_reducible refine kp_skip ?_ ?_); rfl)
    | ((with_reducible refine t_cond fun A B => ?_); simp only [go_sem, Int.cast_ofNat_Int, Nat.reduceEqDiff, reduceIte, Nat.reduceAdd, Nat.reduceMul, Nat.reduceLeDiff, Nat.reduceSub, Nat.reduceLT, Nat.zero_lt_succ, Int.reduceToNat, Int.reduceAdd, Int.reduceSub, Int.reduceMul, Int.reduceNeg, Int.reduceLT, Int.reduceLE, Int.reduceEq, Int.reduceBEq, Int.reduceBNe, Nat.reduceBEq, List.reduceReplicate, con39_f, con39_b, withK, kOf_ints, hp, get_app_of hp, set_app_of hp]; first | (with_reducible refine A.h ?_) | (with_reducible refine B.h ?_) | refine And.intro (fun hc => A.h ?_) (fun hc => B.h ?_))
    | simp only [thenQ_n, thenQ_r, thenQ_e, blockQ_n, blockQ_r, blockQ_e, scopeQ_n, scopeQ_r, scopeQ_e, Nat.reduceEqDiff, reduceIte]
    | (with_reducible refine And.intro ?_ ?_)
    | with_reducible intro vr)
  all_goals try (intros; (try simp only [Bool.and_eq_true, Bool.or_eq_true, Bool.not_eq_true', decide_eq_true_eq, decide_eq_false_iff_not, beq_iff_eq, bne_iff_ne, ne_eq, inI64, List.length_append] at *) <;> omega)
  all_goals try exact h
  refine end_norm rfl ?_
  exact hk
def sepB : Bool → List Int
  | true => [32]
  | false => []
def verB : Bool → Nat
  | true => 2
  | false => 1
theorem sepB_t : sepB true = [32] := rfl
theorem sepB_f : sepB false = [] := rfl
theorem verB_t : verB true = 2 := rfl
theorem verB_f : verB false = 1 := rfl
set_option maxRecDepth 20000 in
theorem num_c {σ : List AObj} {p o ver : Nat} {l : List Int} {n : Int} (hp : σ[p]? = some (.box 53 [.arr o ver])) (ho : σ[o]? = some (.arr 5 1 (ints .u8 l) ver false)) (hl : l.length ≤ 900) (h : 0 ≤ n ∧ n < 10) {k : AV → List AObj → Prop}
    (hk : k (.tup []) ((σ.set o (.arr 5 1 (ints .u8 (l ++ [48 + n])) (ver + 1) false)).set p (.box 53 [.arr o (ver + 1)]))) : EC Tryd.prog 38 [.lit (.int .i64 n), .lit (.bool false), .ref p 0] σ k := by
  have hne : o ≠ p := fun e => by rw [e, hp] at ho; cases ho
  have hp1 : ∀ x, (σ.set o x)[p]? = some (.box 53 [.arr o ver]) := fun x => by rw [List.getElem?_set_ne hne]; exact hp
  refine ec_of E47_ok mixed (fun _ => [0, 1, 2, 5]) Tryd.func38 rfl (by kernel_rfl) (Nat.le_of_ble_eq_true rfl) ?_
  simp only [initF_cons, initF_nil, Nat.reduceAdd]
  refine t_name fun KF => ?_
  unfold E47
  repeat' (first
    | with_reducible refine t_seq fun K => ?_
    | with_reducible refine t_block ?_
    | with_reducible refine t_scope ?_
    | with_reducible refine t_label ?_
    | with_reducible refine t_skip ?_
    | with_reducible refine t_exit ?_
    | with_reducible refine t_ret ?_
    | with_reducible refine t_k ?_
    | (with_reducible refine t_gF ?_)
    | ((first | with_reducible refine t_kE ?_ | with_reducible refine t_kD ?_ | with_reducible refine t_gS ?_ | with_reducible refine t_kL ?_ | (with_reducible refine t_kLE ?_ ?_; rotate_left) | with_reducible refine t_region fun K => ?_ | with_reducible refine t_draw (by kernel_rfl) fun K => ?_); simp only [go_sem, Int.cast_ofNat_Int, Nat.reduceEqDiff, reduceIte, Nat.reduceAdd, Nat.reduceMul, Nat.reduceLeDiff, Nat.reduceSub, Nat.reduceLT, Nat.zero_lt_succ, Int.reduceToNat, Int.reduceAdd, Int.reduceSub, Int.reduceMul, Int.reduceNeg, Int.reduceLT, Int.reduceLE, Int.reduceEq, Int.reduceBEq, Int.reduceBNe, Nat.reduceBEq, List.reduceReplicate, con39_f, con39_a, arrAt, withK, kOf_ints, hp, ho, hp1, get_set ho])
    | (with_reducible exact kp_nil)
    | (with_reducible exact Kp.refl _)
    | (with_reducible exact kp_to)
    | (with_reducible refine kp_cons ?_)
    | (with_reducible refine kp_arr ?_)
    | (with_reducible refine kp_app ?_)
    | ((with_reducible refine kp_skip ?_ ?_); rfl)
    | ((with_reducible refine t_cond fun A B => ?_); simp only [go_sem, Int.cast_ofNat_Int, Nat.reduceEqDiff, reduceIte, Nat.reduceAdd, Nat.reduceMul, Nat.reduceLeDiff, Nat.reduceSub, Nat.reduceLT, Nat.zero_lt_succ, Int.reduceToNat, Int.reduceAdd, Int.reduceSub, Int.reduceMul, Int.reduceNeg, Int.reduceLT, Int.reduceLE, Int.reduceEq, Int.reduceBEq, Int.reduceBNe, Nat.reduceBEq, List.reduceReplicate, con39_f, con39_a, arrAt, withK, kOf_ints, hp, ho, hp1, get_set ho]; first | (with_reducible refine A.h ?_) | (with_reducible refine B.h ?_) | refine And.intro (fun hc => A.h ?_) (fun hc => B.h ?_))
    | simp only [thenQ_n, thenQ_r, thenQ_e, blockQ_n, blockQ_r, blockQ_e, scopeQ_n, scopeQ_r, scopeQ_e, Nat.reduceEqDiff, reduceIte]
    | (with_reducible refine And.intro ?_ ?_)
    | with_reducible intro vr)
  all_goals try (intros; (try simp only [Bool.and_eq_true, Bool.or_eq_true, Bool.not_eq_true', decide_eq_true_eq, decide_eq_false_iff_not, beq_iff_eq, bne_iff_ne, ne_eq, inI64, List.length_append] at *) <;> omega)
  all_goals try exact h
  refine end_norm rfl ?_
  exact hk
noncomputable def con38 : ECon Tryd.prog where
  f := 38
  c := fun args σ k => match args with
    | [.lit (.int .i64 n), .lit (.bool b), .ref p 0] => match σ[p]? with
      | some (.box 53 [.arr o ver]) => arrAt 5 1 σ o ver fun xs => withK .u8 xs fun l => (l.length ≤ 900 ∧ 0 ≤ n ∧ n < 10) ∧ k (.tup []) ((σ.set o (.arr 5 1 (ints .u8 (l ++ (sepB b ++ [48 + n]))) (ver + verB b) false)).set p (.box 53 [.arr o (ver + verB b)]))
      | _ => False
    | _ => False
  ok := by
    intro args σ k hh
    split at hh
    · split at hh
      · rename_i b _ _ _ _ hp
        obtain ⟨xs, ho, h2⟩ := arrAt_inv hh
        obtain ⟨l, rfl, ⟨h3, h4⟩, h5⟩ := withK_inv h2
        cases b
        · exact num_c hp ho h3 h4 h5
        · exact num_a hp ho h3 h4 h5
      · exact hh.elim
    · exact hh.elim
  fk := fk38
theorem con38_f : con38.f = 38 := rfl
theorem con38_c {σ : List AObj} {k : AV → List AObj → Prop} {p : Nat} {n : Int} {b : Bool} : con38.c [.lit (.int .i64 n), .lit (.bool b), .ref p 0] σ k = match σ[p]? with
      | some (.box 53 [.arr o ver]) => arrAt 5 1 σ o ver fun xs => withK .u8 xs fun l => (l.length ≤ 900 ∧ 0 ≤ n ∧ n < 10) ∧ k (.tup []) ((σ.set o (.arr 5 1 (ints .u8 (l ++ (sepB b ++ [48 + n]))) (ver + verB b) false)).set p (.box 53 [.arr o (ver + verB b)]))
      | _ => False := rfl
noncomputable def E48 : Env := envOf (P := Tryd.prog) zer (fun t => t == 11 || t == 16) (fun _ => false) [con22] [con38]
theorem E48_ok : EnvOk Tryd.prog E48 := envOk zer_ok
abbrev a0 : Arr := ⟨sInt, [2, 3], [1, 2, 3, 4, 5, 6]⟩
def c1 : Nat → List Int
  | 0 => [35, 91]
  | 1 => [35, 91, 50]
  | _ => [35, 91, 50, 32, 51]
def v1 : Nat → Nat
  | 0 => 0
  | 1 => 1
  | _ => 3
def c2 (j : Nat) : List Int := [35, 91, 50, 32, 51, 58] ++ ((List.range j).map fun i : Nat => [32, 49 + (i : Int)]).flatten
theorem c2_succ (j : Nat) : c2 j ++ ([32] ++ [48 + ((j : Int) + 1)]) = c2 (j + 1) := by
  unfold c2
  rw [List.range_succ, List.map_append, List.flatten_append, List.append_assoc]
  simp
  omega
theorem c2_len (j : Nat) : (c2 j).length = 6 + 2 * j := by
  induction j with
  | zero => rfl
  | succ j ih => rw [← c2_succ]; simp only [List.length_append, List.length_cons, List.length_nil, ih]; omega
set_option maxRecDepth 20000 in
set_option maxHeartbeats 2000000 in
theorem print_pc : PC Tryd.prog 30 [arrV a0] (.tup [.lit (.string ⟨#[35, 91, 50, 32, 51, 58, 32, 49, 32, 50, 32, 51, 32, 52, 32, 53, 32, 54, 93]⟩), .lit (.int .i64 0)]) := by
  have h0 : (ofE a0 == 0) = true := rfl
  have hs : eqS sInt ⟨#[98, 111, 111, 108]⟩ = false := rfl
  refine pc_of E48_ok mixed (fun _ => [0, 1, 2, 3, 4, 5, 6, 7, 10, 15, 21, 22, 23, 40, 41, 42]) Tryd.func30 rfl (by kernel_rfl) (Nat.le_of_ble_eq_true rfl) ?_
  simp only [initF_cons, initF_nil, Nat.reduceAdd]
  refine t_name fun KF => ?_
  unfold E48
  repeat' (first
    | with_reducible refine t_seq fun K => ?_
    | with_reducible refine t_block ?_
    | with_reducible refine t_scope ?_
    | with_reducible refine t_label ?_
    | with_reducible refine t_skip ?_
    | with_reducible refine t_exit ?_
    | with_reducible refine t_ret ?_
    | with_reducible refine t_k ?_
    | (with_reducible refine t_gF ?_)
    | ((first | with_reducible refine t_kE ?_ | with_reducible refine t_kD ?_ | with_reducible refine t_gS ?_ | with_reducible refine t_kL ?_ | (with_reducible refine t_kLE ?_ ?_; rotate_left) | with_reducible refine t_region fun K => ?_ | with_reducible refine t_draw (by kernel_rfl) fun K => ?_); simp only [go_sem, Int.cast_ofNat_Int, Nat.reduceEqDiff, reduceIte, Nat.reduceAdd, Nat.reduceMul, Nat.reduceLeDiff, Nat.reduceSub, Nat.reduceLT, Nat.zero_lt_succ, Int.reduceToNat, Int.reduceAdd, Int.reduceSub, Int.reduceMul, Int.reduceNeg, Int.reduceLT, Int.reduceLE, Int.reduceEq, Int.reduceBEq, Int.reduceBNe, Nat.reduceBEq, List.reduceReplicate, con22_f, con22_c, con38_f, arrV_def, arrOf_agg, slK_sl, h0, hs, List.isEmpty_cons, Bool.true_eq_false])
    | (with_reducible exact kp_nil)
    | (with_reducible exact Kp.refl _)
    | (with_reducible exact kp_to)
    | (with_reducible refine kp_cons ?_)
    | (with_reducible refine kp_arr ?_)
    | (with_reducible refine kp_app ?_)
    | ((with_reducible refine kp_skip ?_ ?_); rfl)
    | ((with_reducible refine t_cond fun A B => ?_); simp only [go_sem, Int.cast_ofNat_Int, Nat.reduceEqDiff, reduceIte, Nat.reduceAdd, Nat.reduceMul, Nat.reduceLeDiff, Nat.reduceSub, Nat.reduceLT, Nat.zero_lt_succ, Int.reduceToNat, Int.reduceAdd, Int.reduceSub, Int.reduceMul, Int.reduceNeg, Int.reduceLT, Int.reduceLE, Int.reduceEq, Int.reduceBEq, Int.reduceBNe, Nat.reduceBEq, List.reduceReplicate, con22_f, con22_c, con38_f, arrV_def, arrOf_agg, slK_sl, h0, hs, List.isEmpty_cons, Bool.true_eq_false]; first | (with_reducible refine A.h ?_) | (with_reducible refine B.h ?_) | refine And.intro (fun hc => A.h ?_) (fun hc => B.h ?_))
    | simp only [thenQ_n, thenQ_r, thenQ_e, blockQ_n, blockQ_r, blockQ_e, scopeQ_n, scopeQ_r, scopeQ_e, Nat.reduceEqDiff, reduceIte]
    | (with_reducible refine And.intro ?_ ?_)
    | with_reducible intro vr)
  all_goals try (intros; (try simp only [Bool.and_eq_true, Bool.or_eq_true, Bool.not_eq_true', decide_eq_true_eq, decide_eq_false_iff_not, beq_iff_eq, bne_iff_ne, ne_eq, inI64, List.length_append] at *) <;> omega)
  refine t_loop (ι := { i : Nat // i ≤ 2 }) (fun i => ⟨upd (upd (upd (upd (upd topF 22 (.lit (.int .i64 i.1))) 21 (.lit (.int .i64 2))) 5 (.fn (.func 38) [] [.ref 2 0])) 4 (.ref 2 0)) 1 (.ref 0 0), [AObj.box 35 [AV.lit (Value.string sInt), AV.sl false 1 (ints .i64 [2, 3]), AV.sl false 1 (ints .i64 [1, 2, 3, 4, 5, 6])], .arr 5 1 (ints .u8 (c1 i.1)) (v1 i.1) false, .box 53 [.arr 1 (v1 i.1)]]⟩) (fun i => 2 - i.1) ⟨0, by omega⟩ ?_ ?_
  · skip
    (refine Le.frameS ?gs1 ?_; rotate_left; repeat' (first | exact leF_top _ | (with_reducible refine leF_sl ?_ ?_) | (refine leF_upd (LeR.of_eq ?_) ?_))) <;> (try (simp only [go_sem, Int.cast_ofNat_Int, Nat.reduceEqDiff, reduceIte, Nat.reduceAdd, Nat.reduceMul, Nat.reduceLeDiff, Nat.reduceSub, Nat.reduceLT, Nat.zero_lt_succ, Int.reduceToNat, Int.reduceAdd, Int.reduceSub, Int.reduceMul, Int.reduceNeg, Int.reduceLT, Int.reduceLE, Int.reduceEq, Int.reduceBEq, Int.reduceBNe, Nat.reduceBEq, List.reduceReplicate]; try rfl))
    all_goals rfl
  · rintro ⟨i, hi⟩ K0
    have e1 : (ints .i64 [2, 3]).getD 0 .top = .lit (.int .i64 2) := rfl
    have e2 : (ints .i64 [2, 3]).getD 1 .top = .lit (.int .i64 3) := rfl
    have : i = 0 ∨ i = 1 ∨ i = 2 := by omega
    rcases this with rfl | rfl | rfl
    · skip
      repeat' (first
        | with_reducible refine t_seq fun K => ?_
        | with_reducible refine t_block ?_
        | with_reducible refine t_scope ?_
        | with_reducible refine t_label ?_
        | with_reducible refine t_skip ?_
        | with_reducible refine t_exit ?_
        | with_reducible refine t_ret ?_
        | with_reducible refine t_k ?_
        | (with_reducible refine t_gF ?_)
        | ((first | with_reducible refine t_kE ?_ | with_reducible refine t_kD ?_ | with_reducible refine t_gS ?_ | with_reducible refine t_kL ?_ | (with_reducible refine t_kLE ?_ ?_; rotate_left) | with_reducible refine t_region fun K => ?_ | with_reducible refine t_draw (by kernel_rfl) fun K => ?_); simp only [go_sem, Int.cast_ofNat_Int, Nat.reduceEqDiff, reduceIte, Nat.reduceAdd, Nat.reduceMul, Nat.reduceLeDiff, Nat.reduceSub, Nat.reduceLT, Nat.zero_lt_succ, Int.reduceToNat, Int.reduceAdd, Int.reduceSub, Int.reduceMul, Int.reduceNeg, Int.reduceLT, Int.reduceLE, Int.reduceEq, Int.reduceBEq, Int.reduceBNe, Nat.reduceBEq, List.reduceReplicate, con22_f, con38_f, con38_c, arrAt, withK, kOf_ints, c1, v1, e1, sepB_f, verB_f])
        | (with_reducible exact kp_nil)
        | (with_reducible exact Kp.refl _)
        | (with_reducible exact kp_to)
        | (with_reducible refine kp_cons ?_)
        | (with_reducible refine kp_arr ?_)
        | (with_reducible refine kp_app ?_)
        | ((with_reducible refine kp_skip ?_ ?_); rfl)
        | ((with_reducible refine t_cond fun A B => ?_); simp only [go_sem, Int.cast_ofNat_Int, Nat.reduceEqDiff, reduceIte, Nat.reduceAdd, Nat.reduceMul, Nat.reduceLeDiff, Nat.reduceSub, Nat.reduceLT, Nat.zero_lt_succ, Int.reduceToNat, Int.reduceAdd, Int.reduceSub, Int.reduceMul, Int.reduceNeg, Int.reduceLT, Int.reduceLE, Int.reduceEq, Int.reduceBEq, Int.reduceBNe, Nat.reduceBEq, List.reduceReplicate, con22_f, con38_f, con38_c, arrAt, withK, kOf_ints, c1, v1, e1, sepB_f, verB_f]; first | (with_reducible refine A.h ?_) | (with_reducible refine B.h ?_) | refine And.intro (fun hc => A.h ?_) (fun hc => B.h ?_))
        | simp only [thenQ_n, thenQ_r, thenQ_e, blockQ_n, blockQ_r, blockQ_e, scopeQ_n, scopeQ_r, scopeQ_e, Nat.reduceEqDiff, reduceIte]
        | (with_reducible refine And.intro ?_ ?_)
        | with_reducible intro vr)
      all_goals try (intros; (try simp only [Bool.and_eq_true, Bool.or_eq_true, Bool.not_eq_true', decide_eq_true_eq, decide_eq_false_iff_not, beq_iff_eq, bne_iff_ne, ne_eq, inI64, List.length_append] at *) <;> omega)
      refine ⟨⟨1, by omega⟩, by simp only; omega, ?_⟩
      (refine Le.frameS ?gs2 ?_; rotate_left; repeat' (first | exact leF_top _ | (with_reducible refine leF_sl ?_ ?_) | (refine leF_upd (LeR.of_eq ?_) ?_))) <;> (try (simp only [go_sem, Int.cast_ofNat_Int, Nat.reduceEqDiff, reduceIte, Nat.reduceAdd, Nat.reduceMul, Nat.reduceLeDiff, Nat.reduceSub, Nat.reduceLT, Nat.zero_lt_succ, Int.reduceToNat, Int.reduceAdd, Int.reduceSub, Int.reduceMul, Int.reduceNeg, Int.reduceLT, Int.reduceLE, Int.reduceEq, Int.reduceBEq, Int.reduceBNe, Nat.reduceBEq, List.reduceReplicate]; try rfl))
      all_goals rfl
    · skip
      repeat' (first
        | with_reducible refine t_seq fun K => ?_
        | with_reducible refine t_block ?_
        | with_reducible refine t_scope ?_
        | with_reducible refine t_label ?_
        | with_reducible refine t_skip ?_
        | with_reducible refine t_exit ?_
        | with_reducible refine t_ret ?_
        | with_reducible refine t_k ?_
        | (with_reducible refine t_gF ?_)
        | ((first | with_reducible refine t_kE ?_ | with_reducible refine t_kD ?_ | with_reducible refine t_gS ?_ | with_reducible refine t_kL ?_ | (with_reducible refine t_kLE ?_ ?_; rotate_left) | with_reducible refine t_region fun K => ?_ | with_reducible refine t_draw (by kernel_rfl) fun K => ?_); simp only [go_sem, Int.cast_ofNat_Int, Nat.reduceEqDiff, reduceIte, Nat.reduceAdd, Nat.reduceMul, Nat.reduceLeDiff, Nat.reduceSub, Nat.reduceLT, Nat.zero_lt_succ, Int.reduceToNat, Int.reduceAdd, Int.reduceSub, Int.reduceMul, Int.reduceNeg, Int.reduceLT, Int.reduceLE, Int.reduceEq, Int.reduceBEq, Int.reduceBNe, Nat.reduceBEq, List.reduceReplicate, con22_f, con38_f, con38_c, arrAt, withK, kOf_ints, c1, v1, e2, sepB_t, verB_t])
        | (with_reducible exact kp_nil)
        | (with_reducible exact Kp.refl _)
        | (with_reducible exact kp_to)
        | (with_reducible refine kp_cons ?_)
        | (with_reducible refine kp_arr ?_)
        | (with_reducible refine kp_app ?_)
        | ((with_reducible refine kp_skip ?_ ?_); rfl)
        | ((with_reducible refine t_cond fun A B => ?_); simp only [go_sem, Int.cast_ofNat_Int, Nat.reduceEqDiff, reduceIte, Nat.reduceAdd, Nat.reduceMul, Nat.reduceLeDiff, Nat.reduceSub, Nat.reduceLT, Nat.zero_lt_succ, Int.reduceToNat, Int.reduceAdd, Int.reduceSub, Int.reduceMul, Int.reduceNeg, Int.reduceLT, Int.reduceLE, Int.reduceEq, Int.reduceBEq, Int.reduceBNe, Nat.reduceBEq, List.reduceReplicate, con22_f, con38_f, con38_c, arrAt, withK, kOf_ints, c1, v1, e2, sepB_t, verB_t]; first | (with_reducible refine A.h ?_) | (with_reducible refine B.h ?_) | refine And.intro (fun hc => A.h ?_) (fun hc => B.h ?_))
        | simp only [thenQ_n, thenQ_r, thenQ_e, blockQ_n, blockQ_r, blockQ_e, scopeQ_n, scopeQ_r, scopeQ_e, Nat.reduceEqDiff, reduceIte]
        | (with_reducible refine And.intro ?_ ?_)
        | with_reducible intro vr)
      all_goals try (intros; (try simp only [Bool.and_eq_true, Bool.or_eq_true, Bool.not_eq_true', decide_eq_true_eq, decide_eq_false_iff_not, beq_iff_eq, bne_iff_ne, ne_eq, inI64, List.length_append] at *) <;> omega)
      refine ⟨⟨2, by omega⟩, by simp only; omega, ?_⟩
      (refine Le.frameS ?gs3 ?_; rotate_left; repeat' (first | exact leF_top _ | (with_reducible refine leF_sl ?_ ?_) | (refine leF_upd (LeR.of_eq ?_) ?_))) <;> (try (simp only [go_sem, Int.cast_ofNat_Int, Nat.reduceEqDiff, reduceIte, Nat.reduceAdd, Nat.reduceMul, Nat.reduceLeDiff, Nat.reduceSub, Nat.reduceLT, Nat.zero_lt_succ, Int.reduceToNat, Int.reduceAdd, Int.reduceSub, Int.reduceMul, Int.reduceNeg, Int.reduceLT, Int.reduceLE, Int.reduceEq, Int.reduceBEq, Int.reduceBNe, Nat.reduceBEq, List.reduceReplicate]; try rfl))
      all_goals rfl
    · skip
      repeat' (first
        | with_reducible refine t_seq fun K => ?_
        | with_reducible refine t_block ?_
        | with_reducible refine t_scope ?_
        | with_reducible refine t_label ?_
        | with_reducible refine t_skip ?_
        | with_reducible refine t_exit ?_
        | with_reducible refine t_ret ?_
        | with_reducible refine t_k ?_
        | (with_reducible refine t_gF ?_)
        | ((first | with_reducible refine t_kE ?_ | with_reducible refine t_kD ?_ | with_reducible refine t_gS ?_ | with_reducible refine t_kL ?_ | (with_reducible refine t_kLE ?_ ?_; rotate_left) | with_reducible refine t_region fun K => ?_ | with_reducible refine t_draw (by kernel_rfl) fun K => ?_); simp only [go_sem, Int.cast_ofNat_Int, Nat.reduceEqDiff, reduceIte, Nat.reduceAdd, Nat.reduceMul, Nat.reduceLeDiff, Nat.reduceSub, Nat.reduceLT, Nat.zero_lt_succ, Int.reduceToNat, Int.reduceAdd, Int.reduceSub, Int.reduceMul, Int.reduceNeg, Int.reduceLT, Int.reduceLE, Int.reduceEq, Int.reduceBEq, Int.reduceBNe, Nat.reduceBEq, List.reduceReplicate, con22_f, con38_f, c1, v1])
        | (with_reducible exact kp_nil)
        | (with_reducible exact Kp.refl _)
        | (with_reducible exact kp_to)
        | (with_reducible refine kp_cons ?_)
        | (with_reducible refine kp_arr ?_)
        | (with_reducible refine kp_app ?_)
        | ((with_reducible refine kp_skip ?_ ?_); rfl)
        | ((with_reducible refine t_cond fun A B => ?_); simp only [go_sem, Int.cast_ofNat_Int, Nat.reduceEqDiff, reduceIte, Nat.reduceAdd, Nat.reduceMul, Nat.reduceLeDiff, Nat.reduceSub, Nat.reduceLT, Nat.zero_lt_succ, Int.reduceToNat, Int.reduceAdd, Int.reduceSub, Int.reduceMul, Int.reduceNeg, Int.reduceLT, Int.reduceLE, Int.reduceEq, Int.reduceBEq, Int.reduceBNe, Nat.reduceBEq, List.reduceReplicate, con22_f, con38_f, c1, v1]; first | (with_reducible refine A.h ?_) | (with_reducible refine B.h ?_) | refine And.intro (fun hc => A.h ?_) (fun hc => B.h ?_))
        | simp only [thenQ_n, thenQ_r, thenQ_e, blockQ_n, blockQ_r, blockQ_e, scopeQ_n, scopeQ_r, scopeQ_e, Nat.reduceEqDiff, reduceIte]
        | (with_reducible refine And.intro ?_ ?_)
        | with_reducible intro vr)
      all_goals try (intros; (try simp only [Bool.and_eq_true, Bool.or_eq_true, Bool.not_eq_true', decide_eq_true_eq, decide_eq_false_iff_not, beq_iff_eq, bne_iff_ne, ne_eq, inI64, List.length_append] at *) <;> omega)
      refine t_loop (ι := { j : Nat // j ≤ 6 }) (fun i => ⟨upd (upd (upd (upd (upd topF 41 (.lit (.int .i64 i.1))) 40 (.lit (.int .i64 6))) 5 (.fn (.func 38) [] [.ref 2 0])) 4 (.ref 2 0)) 1 (.ref 0 0), [AObj.box 35 [AV.lit (Value.string sInt), AV.sl false 1 (ints .i64 [2, 3]), AV.sl false 1 (ints .i64 [1, 2, 3, 4, 5, 6])], .arr 5 1 (ints .u8 (c2 i.1)) (4 + 2 * i.1) false, .box 53 [.arr 1 (4 + 2 * i.1)]]⟩) (fun i => 6 - i.1) ⟨0, by omega⟩ ?_ ?_
      · skip
        (refine Le.frameS ?gs4 ?_; rotate_left; repeat' (first | exact leF_top _ | (with_reducible refine leF_sl ?_ ?_) | (refine leF_upd (LeR.of_eq ?_) ?_))) <;> (try (simp only [go_sem, Int.cast_ofNat_Int, Nat.reduceEqDiff, reduceIte, Nat.reduceAdd, Nat.reduceMul, Nat.reduceLeDiff, Nat.reduceSub, Nat.reduceLT, Nat.zero_lt_succ, Int.reduceToNat, Int.reduceAdd, Int.reduceSub, Int.reduceMul, Int.reduceNeg, Int.reduceLT, Int.reduceLE, Int.reduceEq, Int.reduceBEq, Int.reduceBNe, Nat.reduceBEq, List.reduceReplicate]; try rfl))
        all_goals rfl
      · rintro ⟨j, hj⟩ K1
        have hl := c2_len j
        rcases Nat.lt_or_ge j 6 with hc | hc
        · have g1 : decide ((j : Int) < 6) = true := decide_eq_true (by omega)
          have g2 : (ints .i64 [1, 2, 3, 4, 5, 6]).getD j .top = .lit (.int .i64 ((j : Int) + 1)) := by
            have : j = 0 ∨ j = 1 ∨ j = 2 ∨ j = 3 ∨ j = 4 ∨ j = 5 := by omega
            rcases this with rfl | rfl | rfl | rfl | rfl | rfl <;> rfl
          have g3 : c2 j ++ [32, 48 + ((j : Int) + 1)] = c2 (j + 1) := c2_succ j
          have g4 : 4 + 2 * j + 2 = 4 + 2 * (j + 1) := by omega
          repeat' (first
            | with_reducible refine t_seq fun K => ?_
            | with_reducible refine t_block ?_
            | with_reducible refine t_scope ?_
            | with_reducible refine t_label ?_
            | with_reducible refine t_skip ?_
            | with_reducible refine t_exit ?_
            | with_reducible refine t_ret ?_
            | with_reducible refine t_k ?_
            | (with_reducible refine t_gF ?_)
            | ((first | with_reducible refine t_kE ?_ | with_reducible refine t_kD ?_ | with_reducible refine t_gS ?_ | with_reducible refine t_kL ?_ | (with_reducible refine t_kLE ?_ ?_; rotate_left) | with_reducible refine t_region fun K => ?_ | with_reducible refine t_draw (by kernel_rfl) fun K => ?_); simp only [go_sem, Int.cast_ofNat_Int, Nat.reduceEqDiff, reduceIte, Nat.reduceAdd, Nat.reduceMul, Nat.reduceLeDiff, Nat.reduceSub, Nat.reduceLT, Nat.zero_lt_succ, Int.reduceToNat, Int.reduceAdd, Int.reduceSub, Int.reduceMul, Int.reduceNeg, Int.reduceLT, Int.reduceLE, Int.reduceEq, Int.reduceBEq, Int.reduceBNe, Nat.reduceBEq, List.reduceReplicate, con22_f, con38_f, con38_c, arrAt, withK, kOf_ints, g1, g2, g3, g4, sepB_t, verB_t, Int.toNat_natCast])
            | (with_reducible exact kp_nil)
            | (with_reducible exact Kp.refl _)
            | (with_reducible exact kp_to)
            | (with_reducible refine kp_cons ?_)
            | (with_reducible refine kp_arr ?_)
            | (with_reducible refine kp_app ?_)
            | ((with_reducible refine kp_skip ?_ ?_); rfl)
            | ((with_reducible refine t_cond fun A B => ?_); simp only [go_sem, Int.cast_ofNat_Int, Nat.reduceEqDiff, reduceIte, Nat.reduceAdd, Nat.reduceMul, Nat.reduceLeDiff, Nat.reduceSub, Nat.reduceLT, Nat.zero_lt_succ, Int.reduceToNat, Int.reduceAdd, Int.reduceSub, Int.reduceMul, Int.reduceNeg, Int.reduceLT, Int.reduceLE, Int.reduceEq, Int.reduceBEq, Int.reduceBNe, Nat.reduceBEq, List.reduceReplicate, con22_f, con38_f, con38_c, arrAt, withK, kOf_ints, g1, g2, g3, g4, sepB_t, verB_t, Int.toNat_natCast]; first | (with_reducible refine A.h ?_) | (with_reducible refine B.h ?_) | refine And.intro (fun hc => A.h ?_) (fun hc => B.h ?_))
            | simp only [thenQ_n, thenQ_r, thenQ_e, blockQ_n, blockQ_r, blockQ_e, scopeQ_n, scopeQ_r, scopeQ_e, Nat.reduceEqDiff, reduceIte]
            | (with_reducible refine And.intro ?_ ?_)
            | with_reducible intro vr)
          all_goals try (intros; (try simp only [Bool.and_eq_true, Bool.or_eq_true, Bool.not_eq_true', decide_eq_true_eq, decide_eq_false_iff_not, beq_iff_eq, bne_iff_ne, ne_eq, inI64, List.length_append] at *) <;> omega)
          refine ⟨⟨j + 1, by omega⟩, by simp only; omega, ?_⟩
          (refine Le.frameS ?gs5 ?_; rotate_left; repeat' (first | exact leF_top _ | (with_reducible refine leF_sl ?_ ?_) | (refine leF_upd (LeR.of_eq ?_) ?_))) <;> (try (simp only [go_sem, Int.cast_ofNat_Int, Nat.reduceEqDiff, reduceIte, Nat.reduceAdd, Nat.reduceMul, Nat.reduceLeDiff, Nat.reduceSub, Nat.reduceLT, Nat.zero_lt_succ, Int.reduceToNat, Int.reduceAdd, Int.reduceSub, Int.reduceMul, Int.reduceNeg, Int.reduceLT, Int.reduceLE, Int.reduceEq, Int.reduceBEq, Int.reduceBNe, Nat.reduceBEq, List.reduceReplicate]; try rfl))
          all_goals rfl
        · have : j = 6 := by omega
          subst this
          repeat' (first
            | with_reducible refine t_seq fun K => ?_
            | with_reducible refine t_block ?_
            | with_reducible refine t_scope ?_
            | with_reducible refine t_label ?_
            | with_reducible refine t_skip ?_
            | with_reducible refine t_exit ?_
            | with_reducible refine t_ret ?_
            | with_reducible refine t_k ?_
            | (with_reducible refine t_gF ?_)
            | ((first | with_reducible refine t_kE ?_ | with_reducible refine t_kD ?_ | with_reducible refine t_gS ?_ | with_reducible refine t_kL ?_ | (with_reducible refine t_kLE ?_ ?_; rotate_left) | with_reducible refine t_region fun K => ?_ | with_reducible refine t_draw (by kernel_rfl) fun K => ?_); simp only [go_sem, Int.cast_ofNat_Int, Nat.reduceEqDiff, reduceIte, Nat.reduceAdd, Nat.reduceMul, Nat.reduceLeDiff, Nat.reduceSub, Nat.reduceLT, Nat.zero_lt_succ, Int.reduceToNat, Int.reduceAdd, Int.reduceSub, Int.reduceMul, Int.reduceNeg, Int.reduceLT, Int.reduceLE, Int.reduceEq, Int.reduceBEq, Int.reduceBNe, Nat.reduceBEq, List.reduceReplicate, con22_f, con38_f])
            | (with_reducible exact kp_nil)
            | (with_reducible exact Kp.refl _)
            | (with_reducible exact kp_to)
            | (with_reducible refine kp_cons ?_)
            | (with_reducible refine kp_arr ?_)
            | (with_reducible refine kp_app ?_)
            | ((with_reducible refine kp_skip ?_ ?_); rfl)
            | ((with_reducible refine t_cond fun A B => ?_); simp only [go_sem, Int.cast_ofNat_Int, Nat.reduceEqDiff, reduceIte, Nat.reduceAdd, Nat.reduceMul, Nat.reduceLeDiff, Nat.reduceSub, Nat.reduceLT, Nat.zero_lt_succ, Int.reduceToNat, Int.reduceAdd, Int.reduceSub, Int.reduceMul, Int.reduceNeg, Int.reduceLT, Int.reduceLE, Int.reduceEq, Int.reduceBEq, Int.reduceBNe, Nat.reduceBEq, List.reduceReplicate, con22_f, con38_f]; first | (with_reducible refine A.h ?_) | (with_reducible refine B.h ?_) | refine And.intro (fun hc => A.h ?_) (fun hc => B.h ?_))
            | simp only [thenQ_n, thenQ_r, thenQ_e, blockQ_n, blockQ_r, blockQ_e, scopeQ_n, scopeQ_r, scopeQ_e, Nat.reduceEqDiff, reduceIte]
            | (with_reducible refine And.intro ?_ ?_)
            | with_reducible intro vr)
          all_goals try (intros; (try simp only [Bool.and_eq_true, Bool.or_eq_true, Bool.not_eq_true', decide_eq_true_eq, decide_eq_false_iff_not, beq_iff_eq, bne_iff_ne, ne_eq, inI64, List.length_append] at *) <;> omega)
          refine end_ret rfl ?_
          simp only [fin, go_sem, Int.cast_ofNat_Int, Nat.reduceEqDiff, reduceIte, Nat.reduceAdd, Nat.reduceMul, Nat.reduceLeDiff, Nat.reduceSub, Nat.reduceLT, Nat.zero_lt_succ, Int.reduceToNat, Int.reduceAdd, Int.reduceSub, Int.reduceMul, Int.reduceNeg, Int.reduceLT, Int.reduceLE, Int.reduceEq, Int.reduceBEq, Int.reduceBNe, Nat.reduceBEq, List.reduceReplicate]
          exact LeA.of_eq rfl
end Go.Proofs.YtjlcbojpiieafaaDoor

/- The examples of the document. -/
namespace Go.Proofs.YtjlcbojpiieafaaDoor
open Go Go.Fw

noncomputable def con30 : PCon Tryd.prog where
  f := 30
  c := fun
    | [x] => match arrOf x with
      | some a => some (a = a0, .tup [.lit (.string ⟨#[35, 91, 50, 32, 51, 58, 32, 49, 32, 50, 32, 51, 32, 52, 32, 53, 32, 54, 93]⟩), .lit (.int .i64 0)])
      | none => none
    | _ => none
  ok := by
    intro args p r hc hp
    split at hc
    · split at hc
      · rename_i ha
        cases hc
        cases hp
        exact PC.weak print_pc ⟨arrOf_le ha, trivial⟩
      · cases hc
    · cases hc
  fk := fk30
theorem con30_f : con30.f = 30 := rfl
theorem con30_c {x : AV} : con30.c [x] = match arrOf x with
      | some a => some (a = a0, .tup [.lit (.string ⟨#[35, 91, 50, 32, 51, 58, 32, 49, 32, 50, 32, 51, 32, 52, 32, 53, 32, 54, 93]⟩), .lit (.int .i64 0)])
      | none => none := rfl
noncomputable def E49 : Env := envOf (P := Tryd.prog) zer (fun _ => false) (fun _ => false) [con11, con17, con22, con30] []
theorem E49_ok : EnvOk Tryd.prog E49 := envOk zer_ok
set_option maxRecDepth 20000 in
set_option maxHeartbeats 4000000 in
theorem awake_pc : PC Tryd.prog 8 [] (.lit (.bool true)) := by
  have h0 : (ofE a0 == 0) = true := rfl
  have h1 : ofS ⟨⟨#[105, 110, 116]⟩, [2, 3], [1, 2, 3, 4, 5, 6]⟩ = (a0, 0) := rfl
  have h2 : offS [2, 3] [1, 0] = (3, 0) := rfl
  refine pc_of E49_ok mixed (fun _ => [0, 1, 2, 3, 4, 5, 6]) Tryd.func8 rfl (by kernel_rfl) (Nat.le_of_ble_eq_true rfl) ?_
  simp only [initF_cons, initF_nil, Nat.reduceAdd]
  refine t_name fun KF => ?_
  unfold E49
  repeat' (first
    | with_reducible refine t_seq fun K => ?_
    | with_reducible refine t_block ?_
    | with_reducible refine t_scope ?_
    | with_reducible refine t_label ?_
    | with_reducible refine t_skip ?_
    | with_reducible refine t_exit ?_
    | with_reducible refine t_ret ?_
    | with_reducible refine t_k ?_
    | (with_reducible refine t_gF ?_)
    | ((first | with_reducible refine t_kE ?_ | with_reducible refine t_kD ?_ | with_reducible refine t_gS ?_ | with_reducible refine t_kL ?_ | (with_reducible refine t_kLE ?_ ?_; rotate_left) | with_reducible refine t_region fun K => ?_ | with_reducible refine t_draw (by kernel_rfl) fun K => ?_); simp only [go_sem, Int.cast_ofNat_Int, Nat.reduceEqDiff, reduceIte, Nat.reduceAdd, Nat.reduceMul, Nat.reduceLeDiff, Nat.reduceSub, Nat.reduceLT, Nat.zero_lt_succ, Int.reduceToNat, Int.reduceAdd, Int.reduceSub, Int.reduceMul, Int.reduceNeg, Int.reduceLT, Int.reduceLE, Int.reduceEq, Int.reduceBEq, Int.reduceBNe, Nat.reduceBEq, List.reduceReplicate, con11_f, con17_f, con22_f, con30_f, con11_c, con17_c, con22_c, con30_c, slK_sl, slK_cons, slK_emp, h0, h1, h2, arrV_def, arrOf_agg, aeV_def, beq_self_eq_true, szV_def, eqS_refl])
    | (with_reducible exact kp_nil)
    | (with_reducible exact Kp.refl _)
    | (with_reducible exact kp_to)
    | (with_reducible refine kp_cons ?_)
    | (with_reducible refine kp_arr ?_)
    | (with_reducible refine kp_app ?_)
    | ((with_reducible refine kp_skip ?_ ?_); rfl)
    | ((with_reducible refine t_cond fun A B => ?_); simp only [go_sem, Int.cast_ofNat_Int, Nat.reduceEqDiff, reduceIte, Nat.reduceAdd, Nat.reduceMul, Nat.reduceLeDiff, Nat.reduceSub, Nat.reduceLT, Nat.zero_lt_succ, Int.reduceToNat, Int.reduceAdd, Int.reduceSub, Int.reduceMul, Int.reduceNeg, Int.reduceLT, Int.reduceLE, Int.reduceEq, Int.reduceBEq, Int.reduceBNe, Nat.reduceBEq, List.reduceReplicate, con11_f, con17_f, con22_f, con30_f, con11_c, con17_c, con22_c, con30_c, slK_sl, slK_cons, slK_emp, h0, h1, h2, arrV_def, arrOf_agg, aeV_def, beq_self_eq_true, szV_def, eqS_refl]; first | (with_reducible refine A.h ?_) | (with_reducible refine B.h ?_) | refine And.intro (fun hc => A.h ?_) (fun hc => B.h ?_))
    | simp only [thenQ_n, thenQ_r, thenQ_e, blockQ_n, blockQ_r, blockQ_e, scopeQ_n, scopeQ_r, scopeQ_e, Nat.reduceEqDiff, reduceIte]
    | (with_reducible refine And.intro ?_ ?_)
    | with_reducible intro vr)
  all_goals try (intros; (try simp only [Bool.and_eq_true, Bool.or_eq_true, Bool.not_eq_true', decide_eq_true_eq, decide_eq_false_iff_not, beq_iff_eq, bne_iff_ne, ne_eq, inI64, List.length_append] at *) <;> omega)
  refine end_ret rfl ?_
  simp only [fin, go_sem, Int.cast_ofNat_Int, Nat.reduceEqDiff, reduceIte, Nat.reduceAdd, Nat.reduceMul, Nat.reduceLeDiff, Nat.reduceSub, Nat.reduceLT, Nat.zero_lt_succ, Int.reduceToNat, Int.reduceAdd, Int.reduceSub, Int.reduceMul, Int.reduceNeg, Int.reduceLT, Int.reduceLE, Int.reduceEq, Int.reduceBEq, Int.reduceBNe, Nat.reduceBEq, List.reduceReplicate]
  exact LeA.refl _
end Go.Proofs.YtjlcbojpiieafaaDoor
