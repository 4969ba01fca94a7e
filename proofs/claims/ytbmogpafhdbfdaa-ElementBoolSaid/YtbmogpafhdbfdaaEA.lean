/- Small functions: wrapping, truth values, quotients, ranges. -/
import Derived.Test.YtbmogpafhdbfdaaFacts

set_option linter.all false

namespace Go.Proofs.Ytbmogpafhdbfdaa
open Go Go.Fw

noncomputable def E0 : Env := envOf (P := Try.prog) zer (fun _ => false) (fun _ => false) [] []
theorem E0_ok : EnvOk Try.prog E0 := envOk zer_ok
/-- An int element. -/
def el (n : Int) : Prop := -2147483648 ≤ n ∧ n ≤ 2147483647
def w32 (n : Int) : Int := IntKind.i32.wrap n
theorem w32_eq (n : Int) : w32 n = (n + 2147483648) % 4294967296 - 2147483648 := by
  unfold w32 IntKind.wrap
  have e1 : IntKind.i32.bits = 32 := rfl
  have e2 : IntKind.i32.signed = true := rfl
  simp only [e1, e2]
  simp
  try omega
theorem w32_el (n : Int) : el (w32 n) := by rw [w32_eq]; unfold el; omega
theorem w32_id {n : Int} (h : el n) : w32 n = n := by rw [w32_eq]; unfold el at h; omega
theorem el_i64 {n : Int} (h : el n) : inI64 n := by unfold el at h; unfold inI64; omega
theorem wrap_w32 (n : Int) : IntKind.i64.wrap (IntKind.i32.wrap n) = w32 n := wrap_i64 (el_i64 (w32_el n))
theorem wrap_pc {f : FuncId} {n : Int} (hf : f = 16 ∨ f = 18) : PC Try.prog f [.lit (.int .i64 n)] (.lit (.int .i64 (w32 n))) := by
  rcases hf with rfl | rfl
  · skip
    refine pc_of E0_ok mixed (fun _ => [0, 2]) Try.func16 rfl (by kernel_rfl) (Nat.le_of_ble_eq_true rfl) ?_
    simp only [initF_cons, initF_nil, Nat.reduceAdd]
    refine t_name fun KF => ?_
    unfold E0
    repeat' (first
      | with_reducible refine t_seq fun K => ?_
      | with_reducible refine t_block ?_
      | with_reducible refine t_scope ?_
      | with_reducible refine t_label ?_
      | with_reducible refine t_skip ?_
      | with_reducible refine t_exit ?_
      | with_reducible refine t_ret ?_
      | with_reducible refine t_k ?_
      | (with_reducible refine t_gF ?_)
      | ((first | with_reducible refine t_kE ?_ | with_reducible refine t_kD ?_ | with_reducible refine t_gS ?_ | with_reducible refine t_kL ?_ | (with_reducible refine t_kLE ?_ ?_; rotate_left) | with_reducible refine t_region fun K => ?_ | with_reducible refine t_draw (by kernel_rfl) fun K => ?_); simp only [go_sem, Int.cast_ofNat_Int, Nat.reduceEqDiff, reduceIte, Nat.reduceAdd, Nat.reduceMul, Nat.reduceLeDiff, Nat.reduceSub, Nat.reduceLT, Nat.zero_lt_succ, Int.reduceToNat, Int.reduceAdd, Int.reduceSub, Int.reduceMul, Int.reduceNeg, Int.reduceLT, Int.reduceLE, Int.reduceEq, Int.reduceBEq, Int.reduceBNe, Nat.reduceBEq, List.reduceReplicate])
      | (with_reducible exact kp_nil)
      | (with_reducible exact Kp.refl _)
      | (with_reducible exact kp_to)
      | (with_reducible refine kp_cons ?_)
      | (with_reducible refine kp_arr ?_)
      | (with_reducible refine kp_app ?_)
      | ((with_reducible refine t_cond fun A B => ?_); simp only [go_sem, Int.cast_ofNat_Int, Nat.reduceEqDiff, reduceIte, Nat.reduceAdd, Nat.reduceMul, Nat.reduceLeDiff, Nat.reduceSub, Nat.reduceLT, Nat.zero_lt_succ, Int.reduceToNat, Int.reduceAdd, Int.reduceSub, Int.reduceMul, Int.reduceNeg, Int.reduceLT, Int.reduceLE, Int.reduceEq, Int.reduceBEq, Int.reduceBNe, Nat.reduceBEq, List.reduceReplicate]; first | (with_reducible refine A.h ?_) | (with_reducible refine B.h ?_) | refine And.intro (fun hc => A.h ?_) (fun hc => B.h ?_))
      | simp only [thenQ_n, thenQ_r, thenQ_e, blockQ_n, blockQ_r, blockQ_e, scopeQ_n, scopeQ_r, scopeQ_e, Nat.reduceEqDiff, reduceIte]
      | (with_reducible refine And.intro ?_ ?_)
      | with_reducible intro vr)
    refine end_ret rfl ?_
    simp only [fin, go_sem, Int.cast_ofNat_Int, Nat.reduceEqDiff, reduceIte, Nat.reduceAdd, Nat.reduceMul, Nat.reduceLeDiff, Nat.reduceSub, Nat.reduceLT, Nat.zero_lt_succ, Int.reduceToNat, Int.reduceAdd, Int.reduceSub, Int.reduceMul, Int.reduceNeg, Int.reduceLT, Int.reduceLE, Int.reduceEq, Int.reduceBEq, Int.reduceBNe, Nat.reduceBEq, List.reduceReplicate, wrap_w32]
    exact LeA.refl _
  · skip
    refine pc_of E0_ok mixed (fun _ => [0, 2]) Try.func18 rfl (by kernel_rfl) (Nat.le_of_ble_eq_true rfl) ?_
    simp only [initF_cons, initF_nil, Nat.reduceAdd]
    refine t_name fun KF => ?_
    unfold E0
    repeat' (first
      | with_reducible refine t_seq fun K => ?_
      | with_reducible refine t_block ?_
      | with_reducible refine t_scope ?_
      | with_reducible refine t_label ?_
      | with_reducible refine t_skip ?_
      | with_reducible refine t_exit ?_
      | with_reducible refine t_ret ?_
      | with_reducible refine t_k ?_
      | (with_reducible refine t_gF ?_)
      | ((first | with_reducible refine t_kE ?_ | with_reducible refine t_kD ?_ | with_reducible refine t_gS ?_ | with_reducible refine t_kL ?_ | (with_reducible refine t_kLE ?_ ?_; rotate_left) | with_reducible refine t_region fun K => ?_ | with_reducible refine t_draw (by kernel_rfl) fun K => ?_); simp only [go_sem, Int.cast_ofNat_Int, Nat.reduceEqDiff, reduceIte, Nat.reduceAdd, Nat.reduceMul, Nat.reduceLeDiff, Nat.reduceSub, Nat.reduceLT, Nat.zero_lt_succ, Int.reduceToNat, Int.reduceAdd, Int.reduceSub, Int.reduceMul, Int.reduceNeg, Int.reduceLT, Int.reduceLE, Int.reduceEq, Int.reduceBEq, Int.reduceBNe, Nat.reduceBEq, List.reduceReplicate])
      | (with_reducible exact kp_nil)
      | (with_reducible exact Kp.refl _)
      | (with_reducible exact kp_to)
      | (with_reducible refine kp_cons ?_)
      | (with_reducible refine kp_arr ?_)
      | (with_reducible refine kp_app ?_)
      | ((with_reducible refine t_cond fun A B => ?_); simp only [go_sem, Int.cast_ofNat_Int, Nat.reduceEqDiff, reduceIte, Nat.reduceAdd, Nat.reduceMul, Nat.reduceLeDiff, Nat.reduceSub, Nat.reduceLT, Nat.zero_lt_succ, Int.reduceToNat, Int.reduceAdd, Int.reduceSub, Int.reduceMul, Int.reduceNeg, Int.reduceLT, Int.reduceLE, Int.reduceEq, Int.reduceBEq, Int.reduceBNe, Nat.reduceBEq, List.reduceReplicate]; first | (with_reducible refine A.h ?_) | (with_reducible refine B.h ?_) | refine And.intro (fun hc => A.h ?_) (fun hc => B.h ?_))
      | simp only [thenQ_n, thenQ_r, thenQ_e, blockQ_n, blockQ_r, blockQ_e, scopeQ_n, scopeQ_r, scopeQ_e, Nat.reduceEqDiff, reduceIte]
      | (with_reducible refine And.intro ?_ ?_)
      | with_reducible intro vr)
    refine end_ret rfl ?_
    simp only [fin, go_sem, Int.cast_ofNat_Int, Nat.reduceEqDiff, reduceIte, Nat.reduceAdd, Nat.reduceMul, Nat.reduceLeDiff, Nat.reduceSub, Nat.reduceLT, Nat.zero_lt_succ, Int.reduceToNat, Int.reduceAdd, Int.reduceSub, Int.reduceMul, Int.reduceNeg, Int.reduceLT, Int.reduceLE, Int.reduceEq, Int.reduceBEq, Int.reduceBNe, Nat.reduceBEq, List.reduceReplicate, wrap_w32]
    exact LeA.refl _
noncomputable def wrapCon (f : FuncId) (h : f = 16 ∨ f = 18) : PCon Try.prog where
  f := f
  c := fun
    | [.lit (.int .i64 n)] => some (True, .lit (.int .i64 (w32 n)))
    | _ => none
  ok := by
    intro args p r hc hp
    split at hc
    · cases hc; exact wrap_pc h
    · cases hc
  fk := by
    rcases h with rfl | rfl
    · exact fk16
    · exact fk18
noncomputable def con16 := wrapCon 16 (.inl rfl)
noncomputable def con18 := wrapCon 18 (.inr rfl)
theorem con16_f : con16.f = 16 := rfl
theorem con18_f : con18.f = 18 := rfl
theorem con16_c {n : Int} : con16.c [.lit (.int .i64 n)] = some (True, .lit (.int .i64 (w32 n))) := rfl
theorem con18_c {n : Int} : con18.c [.lit (.int .i64 n)] = some (True, .lit (.int .i64 (w32 n))) := rfl
def tru (b : Bool) : Int := if b = true then 1 else 0
theorem tru_pc {f : FuncId} {b : Bool} (hf : f = 35 ∨ f = 38) : PC Try.prog f [.lit (.bool b)] (.lit (.int .i64 (tru b))) := by
  rcases hf with rfl | rfl <;> cases b
  · skip
    refine pc_of E0_ok mixed (fun _ => [0, 2, 3]) Try.func35 rfl (by kernel_rfl) (Nat.le_of_ble_eq_true rfl) ?_
    simp only [initF_cons, initF_nil, Nat.reduceAdd]
    refine t_name fun KF => ?_
    unfold E0
    repeat' (first
      | with_reducible refine t_seq fun K => ?_
      | with_reducible refine t_block ?_
      | with_reducible refine t_scope ?_
      | with_reducible refine t_label ?_
      | with_reducible refine t_skip ?_
      | with_reducible refine t_exit ?_
      | with_reducible refine t_ret ?_
      | with_reducible refine t_k ?_
      | (with_reducible refine t_gF ?_)
      | ((first | with_reducible refine t_kE ?_ | with_reducible refine t_kD ?_ | with_reducible refine t_gS ?_ | with_reducible refine t_kL ?_ | (with_reducible refine t_kLE ?_ ?_; rotate_left) | with_reducible refine t_region fun K => ?_ | with_reducible refine t_draw (by kernel_rfl) fun K => ?_); simp only [go_sem, Int.cast_ofNat_Int, Nat.reduceEqDiff, reduceIte, Nat.reduceAdd, Nat.reduceMul, Nat.reduceLeDiff, Nat.reduceSub, Nat.reduceLT, Nat.zero_lt_succ, Int.reduceToNat, Int.reduceAdd, Int.reduceSub, Int.reduceMul, Int.reduceNeg, Int.reduceLT, Int.reduceLE, Int.reduceEq, Int.reduceBEq, Int.reduceBNe, Nat.reduceBEq, List.reduceReplicate])
      | (with_reducible exact kp_nil)
      | (with_reducible exact Kp.refl _)
      | (with_reducible exact kp_to)
      | (with_reducible refine kp_cons ?_)
      | (with_reducible refine kp_arr ?_)
      | (with_reducible refine kp_app ?_)
      | ((with_reducible refine t_cond fun A B => ?_); simp only [go_sem, Int.cast_ofNat_Int, Nat.reduceEqDiff, reduceIte, Nat.reduceAdd, Nat.reduceMul, Nat.reduceLeDiff, Nat.reduceSub, Nat.reduceLT, Nat.zero_lt_succ, Int.reduceToNat, Int.reduceAdd, Int.reduceSub, Int.reduceMul, Int.reduceNeg, Int.reduceLT, Int.reduceLE, Int.reduceEq, Int.reduceBEq, Int.reduceBNe, Nat.reduceBEq, List.reduceReplicate]; first | (with_reducible refine A.h ?_) | (with_reducible refine B.h ?_) | refine And.intro (fun hc => A.h ?_) (fun hc => B.h ?_))
      | simp only [thenQ_n, thenQ_r, thenQ_e, blockQ_n, blockQ_r, blockQ_e, scopeQ_n, scopeQ_r, scopeQ_e, Nat.reduceEqDiff, reduceIte]
      | (with_reducible refine And.intro ?_ ?_)
      | with_reducible intro vr)
    refine end_ret rfl ?_
    simp only [fin, go_sem, Int.cast_ofNat_Int, Nat.reduceEqDiff, reduceIte, Nat.reduceAdd, Nat.reduceMul, Nat.reduceLeDiff, Nat.reduceSub, Nat.reduceLT, Nat.zero_lt_succ, Int.reduceToNat, Int.reduceAdd, Int.reduceSub, Int.reduceMul, Int.reduceNeg, Int.reduceLT, Int.reduceLE, Int.reduceEq, Int.reduceBEq, Int.reduceBNe, Nat.reduceBEq, List.reduceReplicate]
    exact LeA.refl _
  · skip
    refine pc_of E0_ok mixed (fun _ => [0, 2, 3]) Try.func35 rfl (by kernel_rfl) (Nat.le_of_ble_eq_true rfl) ?_
    simp only [initF_cons, initF_nil, Nat.reduceAdd]
    refine t_name fun KF => ?_
    unfold E0
    repeat' (first
      | with_reducible refine t_seq fun K => ?_
      | with_reducible refine t_block ?_
      | with_reducible refine t_scope ?_
      | with_reducible refine t_label ?_
      | with_reducible refine t_skip ?_
      | with_reducible refine t_exit ?_
      | with_reducible refine t_ret ?_
      | with_reducible refine t_k ?_
      | (with_reducible refine t_gF ?_)
      | ((first | with_reducible refine t_kE ?_ | with_reducible refine t_kD ?_ | with_reducible refine t_gS ?_ | with_reducible refine t_kL ?_ | (with_reducible refine t_kLE ?_ ?_; rotate_left) | with_reducible refine t_region fun K => ?_ | with_reducible refine t_draw (by kernel_rfl) fun K => ?_); simp only [go_sem, Int.cast_ofNat_Int, Nat.reduceEqDiff, reduceIte, Nat.reduceAdd, Nat.reduceMul, Nat.reduceLeDiff, Nat.reduceSub, Nat.reduceLT, Nat.zero_lt_succ, Int.reduceToNat, Int.reduceAdd, Int.reduceSub, Int.reduceMul, Int.reduceNeg, Int.reduceLT, Int.reduceLE, Int.reduceEq, Int.reduceBEq, Int.reduceBNe, Nat.reduceBEq, List.reduceReplicate])
      | (with_reducible exact kp_nil)
      | (with_reducible exact Kp.refl _)
      | (with_reducible exact kp_to)
      | (with_reducible refine kp_cons ?_)
      | (with_reducible refine kp_arr ?_)
      | (with_reducible refine kp_app ?_)
      | ((with_reducible refine t_cond fun A B => ?_); simp only [go_sem, Int.cast_ofNat_Int, Nat.reduceEqDiff, reduceIte, Nat.reduceAdd, Nat.reduceMul, Nat.reduceLeDiff, Nat.reduceSub, Nat.reduceLT, Nat.zero_lt_succ, Int.reduceToNat, Int.reduceAdd, Int.reduceSub, Int.reduceMul, Int.reduceNeg, Int.reduceLT, Int.reduceLE, Int.reduceEq, Int.reduceBEq, Int.reduceBNe, Nat.reduceBEq, List.reduceReplicate]; first | (with_reducible refine A.h ?_) | (with_reducible refine B.h ?_) | refine And.intro (fun hc => A.h ?_) (fun hc => B.h ?_))
      | simp only [thenQ_n, thenQ_r, thenQ_e, blockQ_n, blockQ_r, blockQ_e, scopeQ_n, scopeQ_r, scopeQ_e, Nat.reduceEqDiff, reduceIte]
      | (with_reducible refine And.intro ?_ ?_)
      | with_reducible intro vr)
    refine end_ret rfl ?_
    simp only [fin, go_sem, Int.cast_ofNat_Int, Nat.reduceEqDiff, reduceIte, Nat.reduceAdd, Nat.reduceMul, Nat.reduceLeDiff, Nat.reduceSub, Nat.reduceLT, Nat.zero_lt_succ, Int.reduceToNat, Int.reduceAdd, Int.reduceSub, Int.reduceMul, Int.reduceNeg, Int.reduceLT, Int.reduceLE, Int.reduceEq, Int.reduceBEq, Int.reduceBNe, Nat.reduceBEq, List.reduceReplicate]
    exact LeA.refl _
  · skip
    refine pc_of E0_ok mixed (fun _ => [0, 2, 3]) Try.func38 rfl (by kernel_rfl) (Nat.le_of_ble_eq_true rfl) ?_
    simp only [initF_cons, initF_nil, Nat.reduceAdd]
    refine t_name fun KF => ?_
    unfold E0
    repeat' (first
      | with_reducible refine t_seq fun K => ?_
      | with_reducible refine t_block ?_
      | with_reducible refine t_scope ?_
      | with_reducible refine t_label ?_
      | with_reducible refine t_skip ?_
      | with_reducible refine t_exit ?_
      | with_reducible refine t_ret ?_
      | with_reducible refine t_k ?_
      | (with_reducible refine t_gF ?_)
      | ((first | with_reducible refine t_kE ?_ | with_reducible refine t_kD ?_ | with_reducible refine t_gS ?_ | with_reducible refine t_kL ?_ | (with_reducible refine t_kLE ?_ ?_; rotate_left) | with_reducible refine t_region fun K => ?_ | with_reducible refine t_draw (by kernel_rfl) fun K => ?_); simp only [go_sem, Int.cast_ofNat_Int, Nat.reduceEqDiff, reduceIte, Nat.reduceAdd, Nat.reduceMul, Nat.reduceLeDiff, Nat.reduceSub, Nat.reduceLT, Nat.zero_lt_succ, Int.reduceToNat, Int.reduceAdd, Int.reduceSub, Int.reduceMul, Int.reduceNeg, Int.reduceLT, Int.reduceLE, Int.reduceEq, Int.reduceBEq, Int.reduceBNe, Nat.reduceBEq, List.reduceReplicate])
      | (with_reducible exact kp_nil)
      | (with_reducible exact Kp.refl _)
      | (with_reducible exact kp_to)
      | (with_reducible refine kp_cons ?_)
      | (with_reducible refine kp_arr ?_)
      | (with_reducible refine kp_app ?_)
      | ((with_reducible refine t_cond fun A B => ?_); simp only [go_sem, Int.cast_ofNat_Int, Nat.reduceEqDiff, reduceIte, Nat.reduceAdd, Nat.reduceMul, Nat.reduceLeDiff, Nat.reduceSub, Nat.reduceLT, Nat.zero_lt_succ, Int.reduceToNat, Int.reduceAdd, Int.reduceSub, Int.reduceMul, Int.reduceNeg, Int.reduceLT, Int.reduceLE, Int.reduceEq, Int.reduceBEq, Int.reduceBNe, Nat.reduceBEq, List.reduceReplicate]; first | (with_reducible refine A.h ?_) | (with_reducible refine B.h ?_) | refine And.intro (fun hc => A.h ?_) (fun hc => B.h ?_))
      | simp only [thenQ_n, thenQ_r, thenQ_e, blockQ_n, blockQ_r, blockQ_e, scopeQ_n, scopeQ_r, scopeQ_e, Nat.reduceEqDiff, reduceIte]
      | (with_reducible refine And.intro ?_ ?_)
      | with_reducible intro vr)
    refine end_ret rfl ?_
    simp only [fin, go_sem, Int.cast_ofNat_Int, Nat.reduceEqDiff, reduceIte, Nat.reduceAdd, Nat.reduceMul, Nat.reduceLeDiff, Nat.reduceSub, Nat.reduceLT, Nat.zero_lt_succ, Int.reduceToNat, Int.reduceAdd, Int.reduceSub, Int.reduceMul, Int.reduceNeg, Int.reduceLT, Int.reduceLE, Int.reduceEq, Int.reduceBEq, Int.reduceBNe, Nat.reduceBEq, List.reduceReplicate]
    exact LeA.refl _
  · skip
    refine pc_of E0_ok mixed (fun _ => [0, 2, 3]) Try.func38 rfl (by kernel_rfl) (Nat.le_of_ble_eq_true rfl) ?_
    simp only [initF_cons, initF_nil, Nat.reduceAdd]
    refine t_name fun KF => ?_
    unfold E0
    repeat' (first
      | with_reducible refine t_seq fun K => ?_
      | with_reducible refine t_block ?_
      | with_reducible refine t_scope ?_
      | with_reducible refine t_label ?_
      | with_reducible refine t_skip ?_
      | with_reducible refine t_exit ?_
      | with_reducible refine t_ret ?_
      | with_reducible refine t_k ?_
      | (with_reducible refine t_gF ?_)
      | ((first | with_reducible refine t_kE ?_ | with_reducible refine t_kD ?_ | with_reducible refine t_gS ?_ | with_reducible refine t_kL ?_ | (with_reducible refine t_kLE ?_ ?_; rotate_left) | with_reducible refine t_region fun K => ?_ | with_reducible refine t_draw (by kernel_rfl) fun K => ?_); simp only [go_sem, Int.cast_ofNat_Int, Nat.reduceEqDiff, reduceIte, Nat.reduceAdd, Nat.reduceMul, Nat.reduceLeDiff, Nat.reduceSub, Nat.reduceLT, Nat.zero_lt_succ, Int.reduceToNat, Int.reduceAdd, Int.reduceSub, Int.reduceMul, Int.reduceNeg, Int.reduceLT, Int.reduceLE, Int.reduceEq, Int.reduceBEq, Int.reduceBNe, Nat.reduceBEq, List.reduceReplicate])
      | (with_reducible exact kp_nil)
      | (with_reducible exact Kp.refl _)
      | (with_reducible exact kp_to)
      | (with_reducible refine kp_cons ?_)
      | (with_reducible refine kp_arr ?_)
      | (with_reducible refine kp_app ?_)
      | ((with_reducible refine t_cond fun A B => ?_); simp only [go_sem, Int.cast_ofNat_Int, Nat.reduceEqDiff, reduceIte, Nat.reduceAdd, Nat.reduceMul, Nat.reduceLeDiff, Nat.reduceSub, Nat.reduceLT, Nat.zero_lt_succ, Int.reduceToNat, Int.reduceAdd, Int.reduceSub, Int.reduceMul, Int.reduceNeg, Int.reduceLT, Int.reduceLE, Int.reduceEq, Int.reduceBEq, Int.reduceBNe, Nat.reduceBEq, List.reduceReplicate]; first | (with_reducible refine A.h ?_) | (with_reducible refine B.h ?_) | refine And.intro (fun hc => A.h ?_) (fun hc => B.h ?_))
      | simp only [thenQ_n, thenQ_r, thenQ_e, blockQ_n, blockQ_r, blockQ_e, scopeQ_n, scopeQ_r, scopeQ_e, Nat.reduceEqDiff, reduceIte]
      | (with_reducible refine And.intro ?_ ?_)
      | with_reducible intro vr)
    refine end_ret rfl ?_
    simp only [fin, go_sem, Int.cast_ofNat_Int, Nat.reduceEqDiff, reduceIte, Nat.reduceAdd, Nat.reduceMul, Nat.reduceLeDiff, Nat.reduceSub, Nat.reduceLT, Nat.zero_lt_succ, Int.reduceToNat, Int.reduceAdd, Int.reduceSub, Int.reduceMul, Int.reduceNeg, Int.reduceLT, Int.reduceLE, Int.reduceEq, Int.reduceBEq, Int.reduceBNe, Nat.reduceBEq, List.reduceReplicate]
    exact LeA.refl _
noncomputable def truCon (f : FuncId) (h : f = 35 ∨ f = 38) : PCon Try.prog where
  f := f
  c := fun
    | [.lit (.bool b)] => some (True, .lit (.int .i64 (tru b)))
    | _ => none
  ok := by
    intro args p r hc hp
    split at hc
    · cases hc; exact tru_pc h
    · cases hc
  fk := by
    rcases h with rfl | rfl
    · exact fk35
    · exact fk38
noncomputable def con35 := truCon 35 (.inl rfl)
noncomputable def con38 := truCon 38 (.inr rfl)
theorem con35_f : con35.f = 35 := rfl
theorem con38_f : con38.f = 38 := rfl
theorem con35_c {b : Bool} : con35.c [.lit (.bool b)] = some (True, .lit (.int .i64 (tru b))) := rfl
theorem con38_c {b : Bool} : con38.c [.lit (.bool b)] = some (True, .lit (.int .i64 (tru b))) := rfl
theorem tdiv_bd {a b : Int} (ha : el a) (hb : b ≠ 0) : -2147483648 ≤ a.tdiv b ∧ a.tdiv b ≤ 2147483648 := by
  unfold el at ha
  have := Int.natAbs_tdiv_le_natAbs a b
  omega
/-- The quotient, rounded down; 0 if the divisor is 0. -/
def flo (a b : Int) : Int := if b = 0 then 0 else if a.tmod b ≠ 0 ∧ decide (a < 0) ≠ decide (b < 0) then a.tdiv b - 1 else a.tdiv b
theorem flo_pc {f : FuncId} {a b : Int} (hf : f = 32 ∨ f = 36) (ha : el a) : PC Try.prog f [.lit (.int .i64 a), .lit (.int .i64 b)] (.lit (.int .i64 (flo a b))) := by
  unfold flo
  by_cases hb : b = 0
  · subst hb
    rcases hf with rfl | rfl
    · skip
      refine pc_of E0_ok mixed (fun _ => [0, 1, 4, 5, 7, 21]) Try.func32 rfl (by kernel_rfl) (Nat.le_of_ble_eq_true rfl) ?_
      simp only [initF_cons, initF_nil, Nat.reduceAdd]
      refine t_name fun KF => ?_
      unfold E0
      repeat' (first
        | with_reducible refine t_seq fun K => ?_
        | with_reducible refine t_block ?_
        | with_reducible refine t_scope ?_
        | with_reducible refine t_label ?_
        | with_reducible refine t_skip ?_
        | with_reducible refine t_exit ?_
        | with_reducible refine t_ret ?_
        | with_reducible refine t_k ?_
        | (with_reducible refine t_gF ?_)
        | ((first | with_reducible refine t_kE ?_ | with_reducible refine t_kD ?_ | with_reducible refine t_gS ?_ | with_reducible refine t_kL ?_ | (with_reducible refine t_kLE ?_ ?_; rotate_left) | with_reducible refine t_region fun K => ?_ | with_reducible refine t_draw (by kernel_rfl) fun K => ?_); simp only [go_sem, Int.cast_ofNat_Int, Nat.reduceEqDiff, reduceIte, Nat.reduceAdd, Nat.reduceMul, Nat.reduceLeDiff, Nat.reduceSub, Nat.reduceLT, Nat.zero_lt_succ, Int.reduceToNat, Int.reduceAdd, Int.reduceSub, Int.reduceMul, Int.reduceNeg, Int.reduceLT, Int.reduceLE, Int.reduceEq, Int.reduceBEq, Int.reduceBNe, Nat.reduceBEq, List.reduceReplicate])
        | (with_reducible exact kp_nil)
        | (with_reducible exact Kp.refl _)
        | (with_reducible exact kp_to)
        | (with_reducible refine kp_cons ?_)
        | (with_reducible refine kp_arr ?_)
        | (with_reducible refine kp_app ?_)
        | ((with_reducible refine t_cond fun A B => ?_); simp only [go_sem, Int.cast_ofNat_Int, Nat.reduceEqDiff, reduceIte, Nat.reduceAdd, Nat.reduceMul, Nat.reduceLeDiff, Nat.reduceSub, Nat.reduceLT, Nat.zero_lt_succ, Int.reduceToNat, Int.reduceAdd, Int.reduceSub, Int.reduceMul, Int.reduceNeg, Int.reduceLT, Int.reduceLE, Int.reduceEq, Int.reduceBEq, Int.reduceBNe, Nat.reduceBEq, List.reduceReplicate]; first | (with_reducible refine A.h ?_) | (with_reducible refine B.h ?_) | refine And.intro (fun hc => A.h ?_) (fun hc => B.h ?_))
        | simp only [thenQ_n, thenQ_r, thenQ_e, blockQ_n, blockQ_r, blockQ_e, scopeQ_n, scopeQ_r, scopeQ_e, Nat.reduceEqDiff, reduceIte]
        | (with_reducible refine And.intro ?_ ?_)
        | with_reducible intro vr)
      refine end_ret rfl ?_
      simp only [fin, go_sem, Int.cast_ofNat_Int, Nat.reduceEqDiff, reduceIte, Nat.reduceAdd, Nat.reduceMul, Nat.reduceLeDiff, Nat.reduceSub, Nat.reduceLT, Nat.zero_lt_succ, Int.reduceToNat, Int.reduceAdd, Int.reduceSub, Int.reduceMul, Int.reduceNeg, Int.reduceLT, Int.reduceLE, Int.reduceEq, Int.reduceBEq, Int.reduceBNe, Nat.reduceBEq, List.reduceReplicate]
      exact LeA.refl _
    · skip
      refine pc_of E0_ok mixed (fun _ => [0, 1, 4, 5, 7, 21]) Try.func36 rfl (by kernel_rfl) (Nat.le_of_ble_eq_true rfl) ?_
      simp only [initF_cons, initF_nil, Nat.reduceAdd]
      refine t_name fun KF => ?_
      unfold E0
      repeat' (first
        | with_reducible refine t_seq fun K => ?_
        | with_reducible refine t_block ?_
        | with_reducible refine t_scope ?_
        | with_reducible refine t_label ?_
        | with_reducible refine t_skip ?_
        | with_reducible refine t_exit ?_
        | with_reducible refine t_ret ?_
        | with_reducible refine t_k ?_
        | (with_reducible refine t_gF ?_)
        | ((first | with_reducible refine t_kE ?_ | with_reducible refine t_kD ?_ | with_reducible refine t_gS ?_ | with_reducible refine t_kL ?_ | (with_reducible refine t_kLE ?_ ?_; rotate_left) | with_reducible refine t_region fun K => ?_ | with_reducible refine t_draw (by kernel_rfl) fun K => ?_); simp only [go_sem, Int.cast_ofNat_Int, Nat.reduceEqDiff, reduceIte, Nat.reduceAdd, Nat.reduceMul, Nat.reduceLeDiff, Nat.reduceSub, Nat.reduceLT, Nat.zero_lt_succ, Int.reduceToNat, Int.reduceAdd, Int.reduceSub, Int.reduceMul, Int.reduceNeg, Int.reduceLT, Int.reduceLE, Int.reduceEq, Int.reduceBEq, Int.reduceBNe, Nat.reduceBEq, List.reduceReplicate])
        | (with_reducible exact kp_nil)
        | (with_reducible exact Kp.refl _)
        | (with_reducible exact kp_to)
        | (with_reducible refine kp_cons ?_)
        | (with_reducible refine kp_arr ?_)
        | (with_reducible refine kp_app ?_)
        | ((with_reducible refine t_cond fun A B => ?_); simp only [go_sem, Int.cast_ofNat_Int, Nat.reduceEqDiff, reduceIte, Nat.reduceAdd, Nat.reduceMul, Nat.reduceLeDiff, Nat.reduceSub, Nat.reduceLT, Nat.zero_lt_succ, Int.reduceToNat, Int.reduceAdd, Int.reduceSub, Int.reduceMul, Int.reduceNeg, Int.reduceLT, Int.reduceLE, Int.reduceEq, Int.reduceBEq, Int.reduceBNe, Nat.reduceBEq, List.reduceReplicate]; first | (with_reducible refine A.h ?_) | (with_reducible refine B.h ?_) | refine And.intro (fun hc => A.h ?_) (fun hc => B.h ?_))
        | simp only [thenQ_n, thenQ_r, thenQ_e, blockQ_n, blockQ_r, blockQ_e, scopeQ_n, scopeQ_r, scopeQ_e, Nat.reduceEqDiff, reduceIte]
        | (with_reducible refine And.intro ?_ ?_)
        | with_reducible intro vr)
      refine end_ret rfl ?_
      simp only [fin, go_sem, Int.cast_ofNat_Int, Nat.reduceEqDiff, reduceIte, Nat.reduceAdd, Nat.reduceMul, Nat.reduceLeDiff, Nat.reduceSub, Nat.reduceLT, Nat.zero_lt_succ, Int.reduceToNat, Int.reduceAdd, Int.reduceSub, Int.reduceMul, Int.reduceNeg, Int.reduceLT, Int.reduceLE, Int.reduceEq, Int.reduceBEq, Int.reduceBNe, Nat.reduceBEq, List.reduceReplicate]
      exact LeA.refl _
  have hd := tdiv_bd ha hb
  have z : (b == 0) = false := by rw [beq_eq_false_iff_ne]; exact hb
  rw [if_neg hb]
  by_cases h0 : a.tmod b = 0
  · have z0 : (a.tmod b != 0) = false := by rw [bne_eq_false_iff_eq]; exact h0
    rw [if_neg (fun h => h.1 h0)]
    rcases hf with rfl | rfl
    · skip
      refine pc_of E0_ok mixed (fun _ => [0, 1, 4, 5, 7, 21]) Try.func32 rfl (by kernel_rfl) (Nat.le_of_ble_eq_true rfl) ?_
      simp only [initF_cons, initF_nil, Nat.reduceAdd]
      refine t_name fun KF => ?_
      unfold E0
      repeat' (first
        | with_reducible refine t_seq fun K => ?_
        | with_reducible refine t_block ?_
        | with_reducible refine t_scope ?_
        | with_reducible refine t_label ?_
        | with_reducible refine t_skip ?_
        | with_reducible refine t_exit ?_
        | with_reducible refine t_ret ?_
        | with_reducible refine t_k ?_
        | (with_reducible refine t_gF ?_)
        | ((first | with_reducible refine t_kE ?_ | with_reducible refine t_kD ?_ | with_reducible refine t_gS ?_ | with_reducible refine t_kL ?_ | (with_reducible refine t_kLE ?_ ?_; rotate_left) | with_reducible refine t_region fun K => ?_ | with_reducible refine t_draw (by kernel_rfl) fun K => ?_); simp only [go_sem, Int.cast_ofNat_Int, Nat.reduceEqDiff, reduceIte, Nat.reduceAdd, Nat.reduceMul, Nat.reduceLeDiff, Nat.reduceSub, Nat.reduceLT, Nat.zero_lt_succ, Int.reduceToNat, Int.reduceAdd, Int.reduceSub, Int.reduceMul, Int.reduceNeg, Int.reduceLT, Int.reduceLE, Int.reduceEq, Int.reduceBEq, Int.reduceBNe, Nat.reduceBEq, List.reduceReplicate, z, z0])
        | (with_reducible exact kp_nil)
        | (with_reducible exact Kp.refl _)
        | (with_reducible exact kp_to)
        | (with_reducible refine kp_cons ?_)
        | (with_reducible refine kp_arr ?_)
        | (with_reducible refine kp_app ?_)
        | ((with_reducible refine t_cond fun A B => ?_); simp only [go_sem, Int.cast_ofNat_Int, Nat.reduceEqDiff, reduceIte, Nat.reduceAdd, Nat.reduceMul, Nat.reduceLeDiff, Nat.reduceSub, Nat.reduceLT, Nat.zero_lt_succ, Int.reduceToNat, Int.reduceAdd, Int.reduceSub, Int.reduceMul, Int.reduceNeg, Int.reduceLT, Int.reduceLE, Int.reduceEq, Int.reduceBEq, Int.reduceBNe, Nat.reduceBEq, List.reduceReplicate, z, z0]; first | (with_reducible refine A.h ?_) | (with_reducible refine B.h ?_) | refine And.intro (fun hc => A.h ?_) (fun hc => B.h ?_))
        | simp only [thenQ_n, thenQ_r, thenQ_e, blockQ_n, blockQ_r, blockQ_e, scopeQ_n, scopeQ_r, scopeQ_e, Nat.reduceEqDiff, reduceIte]
        | (with_reducible refine And.intro ?_ ?_)
        | with_reducible intro vr)
      all_goals try (intros; (try simp only [Bool.and_eq_true, Bool.or_eq_true, Bool.not_eq_true', decide_eq_true_eq, decide_eq_false_iff_not, beq_iff_eq, bne_iff_ne, ne_eq, inI64, List.length_append] at *) <;> omega)
      refine end_ret rfl ?_
      simp only [fin, go_sem, Int.cast_ofNat_Int, Nat.reduceEqDiff, reduceIte, Nat.reduceAdd, Nat.reduceMul, Nat.reduceLeDiff, Nat.reduceSub, Nat.reduceLT, Nat.zero_lt_succ, Int.reduceToNat, Int.reduceAdd, Int.reduceSub, Int.reduceMul, Int.reduceNeg, Int.reduceLT, Int.reduceLE, Int.reduceEq, Int.reduceBEq, Int.reduceBNe, Nat.reduceBEq, List.reduceReplicate]
      exact LeA.refl _
    · skip
      refine pc_of E0_ok mixed (fun _ => [0, 1, 4, 5, 7, 21]) Try.func36 rfl (by kernel_rfl) (Nat.le_of_ble_eq_true rfl) ?_
      simp only [initF_cons, initF_nil, Nat.reduceAdd]
      refine t_name fun KF => ?_
      unfold E0
      repeat' (first
        | with_reducible refine t_seq fun K => ?_
        | with_reducible refine t_block ?_
        | with_reducible refine t_scope ?_
        | with_reducible refine t_label ?_
        | with_reducible refine t_skip ?_
        | with_reducible refine t_exit ?_
        | with_reducible refine t_ret ?_
        | with_reducible refine t_k ?_
        | (with_reducible refine t_gF ?_)
        | ((first | with_reducible refine t_kE ?_ | with_reducible refine t_kD ?_ | with_reducible refine t_gS ?_ | with_reducible refine t_kL ?_ | (with_reducible refine t_kLE ?_ ?_; rotate_left) | with_reducible refine t_region fun K => ?_ | with_reducible refine t_draw (by kernel_rfl) fun K => ?_); simp only [go_sem, Int.cast_ofNat_Int, Nat.reduceEqDiff, reduceIte, Nat.reduceAdd, Nat.reduceMul, Nat.reduceLeDiff, Nat.reduceSub, Nat.reduceLT, Nat.zero_lt_succ, Int.reduceToNat, Int.reduceAdd, Int.reduceSub, Int.reduceMul, Int.reduceNeg, Int.reduceLT, Int.reduceLE, Int.reduceEq, Int.reduceBEq, Int.reduceBNe, Nat.reduceBEq, List.reduceReplicate, z, z0])
        | (with_reducible exact kp_nil)
        | (with_reducible exact Kp.refl _)
        | (with_reducible exact kp_to)
        | (with_reducible refine kp_cons ?_)
        | (with_reducible refine kp_arr ?_)
        | (with_reducible refine kp_app ?_)
        | ((with_reducible refine t_cond fun A B => ?_); simp only [go_sem, Int.cast_ofNat_Int, Nat.reduceEqDiff, reduceIte, Nat.reduceAdd, Nat.reduceMul, Nat.reduceLeDiff, Nat.reduceSub, Nat.reduceLT, Nat.zero_lt_succ, Int.reduceToNat, Int.reduceAdd, Int.reduceSub, Int.reduceMul, Int.reduceNeg, Int.reduceLT, Int.reduceLE, Int.reduceEq, Int.reduceBEq, Int.reduceBNe, Nat.reduceBEq, List.reduceReplicate, z, z0]; first | (with_reducible refine A.h ?_) | (with_reducible refine B.h ?_) | refine And.intro (fun hc => A.h ?_) (fun hc => B.h ?_))
        | simp only [thenQ_n, thenQ_r, thenQ_e, blockQ_n, blockQ_r, blockQ_e, scopeQ_n, scopeQ_r, scopeQ_e, Nat.reduceEqDiff, reduceIte]
        | (with_reducible refine And.intro ?_ ?_)
        | with_reducible intro vr)
      all_goals try (intros; (try simp only [Bool.and_eq_true, Bool.or_eq_true, Bool.not_eq_true', decide_eq_true_eq, decide_eq_false_iff_not, beq_iff_eq, bne_iff_ne, ne_eq, inI64, List.length_append] at *) <;> omega)
      refine end_ret rfl ?_
      simp only [fin, go_sem, Int.cast_ofNat_Int, Nat.reduceEqDiff, reduceIte, Nat.reduceAdd, Nat.reduceMul, Nat.reduceLeDiff, Nat.reduceSub, Nat.reduceLT, Nat.zero_lt_succ, Int.reduceToNat, Int.reduceAdd, Int.reduceSub, Int.reduceMul, Int.reduceNeg, Int.reduceLT, Int.reduceLE, Int.reduceEq, Int.reduceBEq, Int.reduceBNe, Nat.reduceBEq, List.reduceReplicate]
      exact LeA.refl _
  have z0 : (a.tmod b != 0) = true := by rw [bne_iff_ne]; exact h0
  by_cases h1 : decide (a < 0) = decide (b < 0)
  · have z1 : (decide (a < 0) == decide (b < 0)) = true := by rw [beq_iff_eq]; exact h1
    rw [if_neg (fun h => h.2 h1)]
    rcases hf with rfl | rfl
    · skip
      refine pc_of E0_ok mixed (fun _ => [0, 1, 4, 5, 7, 21]) Try.func32 rfl (by kernel_rfl) (Nat.le_of_ble_eq_true rfl) ?_
      simp only [initF_cons, initF_nil, Nat.reduceAdd]
      refine t_name fun KF => ?_
      unfold E0
      repeat' (first
        | with_reducible refine t_seq fun K => ?_
        | with_reducible refine t_block ?_
        | with_reducible refine t_scope ?_
        | with_reducible refine t_label ?_
        | with_reducible refine t_skip ?_
        | with_reducible refine t_exit ?_
        | with_reducible refine t_ret ?_
        | with_reducible refine t_k ?_
        | (with_reducible refine t_gF ?_)
        | ((first | with_reducible refine t_kE ?_ | with_reducible refine t_kD ?_ | with_reducible refine t_gS ?_ | with_reducible refine t_kL ?_ | (with_reducible refine t_kLE ?_ ?_; rotate_left) | with_reducible refine t_region fun K => ?_ | with_reducible refine t_draw (by kernel_rfl) fun K => ?_); simp only [go_sem, Int.cast_ofNat_Int, Nat.reduceEqDiff, reduceIte, Nat.reduceAdd, Nat.reduceMul, Nat.reduceLeDiff, Nat.reduceSub, Nat.reduceLT, Nat.zero_lt_succ, Int.reduceToNat, Int.reduceAdd, Int.reduceSub, Int.reduceMul, Int.reduceNeg, Int.reduceLT, Int.reduceLE, Int.reduceEq, Int.reduceBEq, Int.reduceBNe, Nat.reduceBEq, List.reduceReplicate, z, z0, z1])
        | (with_reducible exact kp_nil)
        | (with_reducible exact Kp.refl _)
        | (with_reducible exact kp_to)
        | (with_reducible refine kp_cons ?_)
        | (with_reducible refine kp_arr ?_)
        | (with_reducible refine kp_app ?_)
        | ((with_reducible refine t_cond fun A B => ?_); simp only [go_sem, Int.cast_ofNat_Int, Nat.reduceEqDiff, reduceIte, Nat.reduceAdd, Nat.reduceMul, Nat.reduceLeDiff, Nat.reduceSub, Nat.reduceLT, Nat.zero_lt_succ, Int.reduceToNat, Int.reduceAdd, Int.reduceSub, Int.reduceMul, Int.reduceNeg, Int.reduceLT, Int.reduceLE, Int.reduceEq, Int.reduceBEq, Int.reduceBNe, Nat.reduceBEq, List.reduceReplicate, z, z0, z1]; first | (with_reducible refine A.h ?_) | (with_reducible refine B.h ?_) | refine And.intro (fun hc => A.h ?_) (fun hc => B.h ?_))
        | simp only [thenQ_n, thenQ_r, thenQ_e, blockQ_n, blockQ_r, blockQ_e, scopeQ_n, scopeQ_r, scopeQ_e, Nat.reduceEqDiff, reduceIte]
        | (with_reducible refine And.intro ?_ ?_)
        | with_reducible intro vr)
      all_goals try (intros; (try simp only [Bool.and_eq_true, Bool.or_eq_true, Bool.not_eq_true', decide_eq_true_eq, decide_eq_false_iff_not, beq_iff_eq, bne_iff_ne, ne_eq, inI64, List.length_append] at *) <;> omega)
      refine end_ret rfl ?_
      simp only [fin, go_sem, Int.cast_ofNat_Int, Nat.reduceEqDiff, reduceIte, Nat.reduceAdd, Nat.reduceMul, Nat.reduceLeDiff, Nat.reduceSub, Nat.reduceLT, Nat.zero_lt_succ, Int.reduceToNat, Int.reduceAdd, Int.reduceSub, Int.reduceMul, Int.reduceNeg, Int.reduceLT, Int.reduceLE, Int.reduceEq, Int.reduceBEq, Int.reduceBNe, Nat.reduceBEq, List.reduceReplicate]
      exact LeA.refl _
    · skip
      refine pc_of E0_ok mixed (fun _ => [0, 1, 4, 5, 7, 21]) Try.func36 rfl (by kernel_rfl) (Nat.le_of_ble_eq_true rfl) ?_
      simp only [initF_cons, initF_nil, Nat.reduceAdd]
      refine t_name fun KF => ?_
      unfold E0
      repeat' (first
        | with_reducible refine t_seq fun K => ?_
        | with_reducible refine t_block ?_
        | with_reducible refine t_scope ?_
        | with_reducible refine t_label ?_
        | with_reducible refine t_skip ?_
        | with_reducible refine t_exit ?_
        | with_reducible refine t_ret ?_
        | with_reducible refine t_k ?_
        | (with_reducible refine t_gF ?_)
        | ((first | with_reducible refine t_kE ?_ | with_reducible refine t_kD ?_ | with_reducible refine t_gS ?_ | with_reducible refine t_kL ?_ | (with_reducible refine t_kLE ?_ ?_; rotate_left) | with_reducible refine t_region fun K => ?_ | with_reducible refine t_draw (by kernel_rfl) fun K => ?_); simp only [go_sem, Int.cast_ofNat_Int, Nat.reduceEqDiff, reduceIte, Nat.reduceAdd, Nat.reduceMul, Nat.reduceLeDiff, Nat.reduceSub, Nat.reduceLT, Nat.zero_lt_succ, Int.reduceToNat, Int.reduceAdd, Int.reduceSub, Int.reduceMul, Int.reduceNeg, Int.reduceLT, Int.reduceLE, Int.reduceEq, Int.reduceBEq, Int.reduceBNe, Nat.reduceBEq, List.reduceReplicate, z, z0, z1])
        | (with_reducible exact kp_nil)
        | (with_reducible exact Kp.refl _)
        | (with_reducible exact kp_to)
        | (with_reducible refine kp_cons ?_)
        | (with_reducible refine kp_arr ?_)
        | (with_reducible refine kp_app ?_)
        | ((with_reducible refine t_cond fun A B => ?_); simp only [go_sem, Int.cast_ofNat_Int, Nat.reduceEqDiff, reduceIte, Nat.reduceAdd, Nat.reduceMul, Nat.reduceLeDiff, Nat.reduceSub, Nat.reduceLT, Nat.zero_lt_succ, Int.reduceToNat, Int.reduceAdd, Int.reduceSub, Int.reduceMul, Int.reduceNeg, Int.reduceLT, Int.reduceLE, Int.reduceEq, Int.reduceBEq, Int.reduceBNe, Nat.reduceBEq, List.reduceReplicate, z, z0, z1]; first | (with_reducible refine A.h ?_) | (with_reducible refine B.h ?_) | refine And.intro (fun hc => A.h ?_) (fun hc => B.h ?_))
        | simp only [thenQ_n, thenQ_r, thenQ_e, blockQ_n, blockQ_r, blockQ_e, scopeQ_n, scopeQ_r, scopeQ_e, Nat.reduceEqDiff, reduceIte]
        | (with_reducible refine And.intro ?_ ?_)
        | with_reducible intro vr)
      all_goals try (intros; (try simp only [Bool.and_eq_true, Bool.or_eq_true, Bool.not_eq_true', decide_eq_true_eq, decide_eq_false_iff_not, beq_iff_eq, bne_iff_ne, ne_eq, inI64, List.length_append] at *) <;> omega)
      refine end_ret rfl ?_
      simp only [fin, go_sem, Int.cast_ofNat_Int, Nat.reduceEqDiff, reduceIte, Nat.reduceAdd, Nat.reduceMul, Nat.reduceLeDiff, Nat.reduceSub, Nat.reduceLT, Nat.zero_lt_succ, Int.reduceToNat, Int.reduceAdd, Int.reduceSub, Int.reduceMul, Int.reduceNeg, Int.reduceLT, Int.reduceLE, Int.reduceEq, Int.reduceBEq, Int.reduceBNe, Nat.reduceBEq, List.reduceReplicate]
      exact LeA.refl _
  · have z1 : (decide (a < 0) == decide (b < 0)) = false := by rw [beq_eq_false_iff_ne]; exact h1
    rw [if_pos ⟨h0, h1⟩]
    rcases hf with rfl | rfl
    · skip
      refine pc_of E0_ok mixed (fun _ => [0, 1, 4, 5, 7, 21]) Try.func32 rfl (by kernel_rfl) (Nat.le_of_ble_eq_true rfl) ?_
      simp only [initF_cons, initF_nil, Nat.reduceAdd]
      refine t_name fun KF => ?_
      unfold E0
      repeat' (first
        | with_reducible refine t_seq fun K => ?_
        | with_reducible refine t_block ?_
        | with_reducible refine t_scope ?_
        | with_reducible refine t_label ?_
        | with_reducible refine t_skip ?_
        | with_reducible refine t_exit ?_
        | with_reducible refine t_ret ?_
        | with_reducible refine t_k ?_
        | (with_reducible refine t_gF ?_)
        | ((first | with_reducible refine t_kE ?_ | with_reducible refine t_kD ?_ | with_reducible refine t_gS ?_ | with_reducible refine t_kL ?_ | (with_reducible refine t_kLE ?_ ?_; rotate_left) | with_reducible refine t_region fun K => ?_ | with_reducible refine t_draw (by kernel_rfl) fun K => ?_); simp only [go_sem, Int.cast_ofNat_Int, Nat.reduceEqDiff, reduceIte, Nat.reduceAdd, Nat.reduceMul, Nat.reduceLeDiff, Nat.reduceSub, Nat.reduceLT, Nat.zero_lt_succ, Int.reduceToNat, Int.reduceAdd, Int.reduceSub, Int.reduceMul, Int.reduceNeg, Int.reduceLT, Int.reduceLE, Int.reduceEq, Int.reduceBEq, Int.reduceBNe, Nat.reduceBEq, List.reduceReplicate, z, z0, z1])
        | (with_reducible exact kp_nil)
        | (with_reducible exact Kp.refl _)
        | (with_reducible exact kp_to)
        | (with_reducible refine kp_cons ?_)
        | (with_reducible refine kp_arr ?_)
        | (with_reducible refine kp_app ?_)
        | ((with_reducible refine t_cond fun A B => ?_); simp only [go_sem, Int.cast_ofNat_Int, Nat.reduceEqDiff, reduceIte, Nat.reduceAdd, Nat.reduceMul, Nat.reduceLeDiff, Nat.reduceSub, Nat.reduceLT, Nat.zero_lt_succ, Int.reduceToNat, Int.reduceAdd, Int.reduceSub, Int.reduceMul, Int.reduceNeg, Int.reduceLT, Int.reduceLE, Int.reduceEq, Int.reduceBEq, Int.reduceBNe, Nat.reduceBEq, List.reduceReplicate, z, z0, z1]; first | (with_reducible refine A.h ?_) | (with_reducible refine B.h ?_) | refine And.intro (fun hc => A.h ?_) (fun hc => B.h ?_))
        | simp only [thenQ_n, thenQ_r, thenQ_e, blockQ_n, blockQ_r, blockQ_e, scopeQ_n, scopeQ_r, scopeQ_e, Nat.reduceEqDiff, reduceIte]
        | (with_reducible refine And.intro ?_ ?_)
        | with_reducible intro vr)
      all_goals try (intros; (try simp only [Bool.and_eq_true, Bool.or_eq_true, Bool.not_eq_true', decide_eq_true_eq, decide_eq_false_iff_not, beq_iff_eq, bne_iff_ne, ne_eq, inI64, List.length_append] at *) <;> omega)
      refine end_ret rfl ?_
      simp only [fin, go_sem, Int.cast_ofNat_Int, Nat.reduceEqDiff, reduceIte, Nat.reduceAdd, Nat.reduceMul, Nat.reduceLeDiff, Nat.reduceSub, Nat.reduceLT, Nat.zero_lt_succ, Int.reduceToNat, Int.reduceAdd, Int.reduceSub, Int.reduceMul, Int.reduceNeg, Int.reduceLT, Int.reduceLE, Int.reduceEq, Int.reduceBEq, Int.reduceBNe, Nat.reduceBEq, List.reduceReplicate]
      exact LeA.refl _
    · skip
      refine pc_of E0_ok mixed (fun _ => [0, 1, 4, 5, 7, 21]) Try.func36 rfl (by kernel_rfl) (Nat.le_of_ble_eq_true rfl) ?_
      simp only [initF_cons, initF_nil, Nat.reduceAdd]
      refine t_name fun KF => ?_
      unfold E0
      repeat' (first
        | with_reducible refine t_seq fun K => ?_
        | with_reducible refine t_block ?_
        | with_reducible refine t_scope ?_
        | with_reducible refine t_label ?_
        | with_reducible refine t_skip ?_
        | with_reducible refine t_exit ?_
        | with_reducible refine t_ret ?_
        | with_reducible refine t_k ?_
        | (with_reducible refine t_gF ?_)
        | ((first | with_reducible refine t_kE ?_ | with_reducible refine t_kD ?_ | with_reducible refine t_gS ?_ | with_reducible refine t_kL ?_ | (with_reducible refine t_kLE ?_ ?_; rotate_left) | with_reducible refine t_region fun K => ?_ | with_reducible refine t_draw (by kernel_rfl) fun K => ?_); simp only [go_sem, Int.cast_ofNat_Int, Nat.reduceEqDiff, reduceIte, Nat.reduceAdd, Nat.reduceMul, Nat.reduceLeDiff, Nat.reduceSub, Nat.reduceLT, Nat.zero_lt_succ, Int.reduceToNat, Int.reduceAdd, Int.reduceSub, Int.reduceMul, Int.reduceNeg, Int.reduceLT, Int.reduceLE, Int.reduceEq, Int.reduceBEq, Int.reduceBNe, Nat.reduceBEq, List.reduceReplicate, z, z0, z1])
        | (with_reducible exact kp_nil)
        | (with_reducible exact Kp.refl _)
        | (with_reducible exact kp_to)
        | (with_reducible refine kp_cons ?_)
        | (with_reducible refine kp_arr ?_)
        | (with_reducible refine kp_app ?_)
        | ((with_reducible refine t_cond fun A B => ?_); simp only [go_sem, Int.cast_ofNat_Int, Nat.reduceEqDiff, reduceIte, Nat.reduceAdd, Nat.reduceMul, Nat.reduceLeDiff, Nat.reduceSub, Nat.reduceLT, Nat.zero_lt_succ, Int.reduceToNat, Int.reduceAdd, Int.reduceSub, Int.reduceMul, Int.reduceNeg, Int.reduceLT, Int.reduceLE, Int.reduceEq, Int.reduceBEq, Int.reduceBNe, Nat.reduceBEq, List.reduceReplicate, z, z0, z1]; first | (with_reducible refine A.h ?_) | (with_reducible refine B.h ?_) | refine And.intro (fun hc => A.h ?_) (fun hc => B.h ?_))
        | simp only [thenQ_n, thenQ_r, thenQ_e, blockQ_n, blockQ_r, blockQ_e, scopeQ_n, scopeQ_r, scopeQ_e, Nat.reduceEqDiff, reduceIte]
        | (with_reducible refine And.intro ?_ ?_)
        | with_reducible intro vr)
      all_goals try (intros; (try simp only [Bool.and_eq_true, Bool.or_eq_true, Bool.not_eq_true', decide_eq_true_eq, decide_eq_false_iff_not, beq_iff_eq, bne_iff_ne, ne_eq, inI64, List.length_append] at *) <;> omega)
      refine end_ret rfl ?_
      simp only [fin, go_sem, Int.cast_ofNat_Int, Nat.reduceEqDiff, reduceIte, Nat.reduceAdd, Nat.reduceMul, Nat.reduceLeDiff, Nat.reduceSub, Nat.reduceLT, Nat.zero_lt_succ, Int.reduceToNat, Int.reduceAdd, Int.reduceSub, Int.reduceMul, Int.reduceNeg, Int.reduceLT, Int.reduceLE, Int.reduceEq, Int.reduceBEq, Int.reduceBNe, Nat.reduceBEq, List.reduceReplicate]
      exact LeA.refl _
noncomputable def floCon (f : FuncId) (h : f = 32 ∨ f = 36) : PCon Try.prog where
  f := f
  c := fun
    | [.lit (.int .i64 a), .lit (.int .i64 b)] => some (el a, .lit (.int .i64 (flo a b)))
    | _ => none
  ok := by
    intro args p r hc hp
    split at hc
    · cases hc; exact flo_pc h hp
    · cases hc
  fk := by
    rcases h with rfl | rfl
    · exact fk32
    · exact fk36
noncomputable def con32 := floCon 32 (.inl rfl)
noncomputable def con36 := floCon 36 (.inr rfl)
theorem con32_f : con32.f = 32 := rfl
theorem con36_f : con36.f = 36 := rfl
theorem con32_c {a b : Int} : con32.c [.lit (.int .i64 a), .lit (.int .i64 b)] = some (el a, .lit (.int .i64 (flo a b))) := rfl
theorem con36_c {a b : Int} : con36.c [.lit (.int .i64 a), .lit (.int .i64 b)] = some (el a, .lit (.int .i64 (flo a b))) := rfl
/-- The sign of a number. -/
def sgn (a : Int) : Int := if a < 0 then -1 else if a > 0 then 1 else 0
theorem nan_pc {a : Int} : PC Try.prog 37 [.lit (.int .i64 a)] (.lit (.bool false)) := by
  refine pc_of E0_ok mixed (fun _ => [0, 2]) Try.func37 rfl (by kernel_rfl) (Nat.le_of_ble_eq_true rfl) ?_
  simp only [initF_cons, initF_nil, Nat.reduceAdd]
  refine t_name fun KF => ?_
  unfold E0
  repeat' (first
    | with_reducible refine t_seq fun K => ?_
    | with_reducible refine t_block ?_
    | with_reducible refine t_scope ?_
    | with_reducible refine t_label ?_
    | with_reducible refine t_skip ?_
    | with_reducible refine t_exit ?_
    | with_reducible refine t_ret ?_
    | with_reducible refine t_k ?_
    | (with_reducible refine t_gF ?_)
    | ((first | with_reducible refine t_kE ?_ | with_reducible refine t_kD ?_ | with_reducible refine t_gS ?_ | with_reducible refine t_kL ?_ | (with_reducible refine t_kLE ?_ ?_; rotate_left) | with_reducible refine t_region fun K => ?_ | with_reducible refine t_draw (by kernel_rfl) fun K => ?_); simp only [go_sem, Int.cast_ofNat_Int, Nat.reduceEqDiff, reduceIte, Nat.reduceAdd, Nat.reduceMul, Nat.reduceLeDiff, Nat.reduceSub, Nat.reduceLT, Nat.zero_lt_succ, Int.reduceToNat, Int.reduceAdd, Int.reduceSub, Int.reduceMul, Int.reduceNeg, Int.reduceLT, Int.reduceLE, Int.reduceEq, Int.reduceBEq, Int.reduceBNe, Nat.reduceBEq, List.reduceReplicate, bne_self_eq_false])
    | (with_reducible exact kp_nil)
    | (with_reducible exact Kp.refl _)
    | (with_reducible exact kp_to)
    | (with_reducible refine kp_cons ?_)
    | (with_reducible refine kp_arr ?_)
    | (with_reducible refine kp_app ?_)
    | ((with_reducible refine t_cond fun A B => ?_); simp only [go_sem, Int.cast_ofNat_Int, Nat.reduceEqDiff, reduceIte, Nat.reduceAdd, Nat.reduceMul, Nat.reduceLeDiff, Nat.reduceSub, Nat.reduceLT, Nat.zero_lt_succ, Int.reduceToNat, Int.reduceAdd, Int.reduceSub, Int.reduceMul, Int.reduceNeg, Int.reduceLT, Int.reduceLE, Int.reduceEq, Int.reduceBEq, Int.reduceBNe, Nat.reduceBEq, List.reduceReplicate, bne_self_eq_false]; first | (with_reducible refine A.h ?_) | (with_reducible refine B.h ?_) | refine And.intro (fun hc => A.h ?_) (fun hc => B.h ?_))
    | simp only [thenQ_n, thenQ_r, thenQ_e, blockQ_n, blockQ_r, blockQ_e, scopeQ_n, scopeQ_r, scopeQ_e, Nat.reduceEqDiff, reduceIte]
    | (with_reducible refine And.intro ?_ ?_)
    | with_reducible intro vr)
  refine end_ret rfl ?_
  simp only [fin, go_sem, Int.cast_ofNat_Int, Nat.reduceEqDiff, reduceIte, Nat.reduceAdd, Nat.reduceMul, Nat.reduceLeDiff, Nat.reduceSub, Nat.reduceLT, Nat.zero_lt_succ, Int.reduceToNat, Int.reduceAdd, Int.reduceSub, Int.reduceMul, Int.reduceNeg, Int.reduceLT, Int.reduceLE, Int.reduceEq, Int.reduceBEq, Int.reduceBNe, Nat.reduceBEq, List.reduceReplicate, bne_self_eq_false]
  exact LeA.refl _
noncomputable def con37 : PCon Try.prog where
  f := 37
  c := fun
    | [.lit (.int .i64 _)] => some (True, .lit (.bool false))
    | _ => none
  ok := by
    intro args p r hc hp
    split at hc
    · cases hc; exact nan_pc
    · cases hc
  fk := fk37
theorem con37_f : con37.f = 37 := rfl
theorem con37_c {a : Int} : con37.c [.lit (.int .i64 a)] = some (True, .lit (.bool false)) := rfl
noncomputable def E1 : Env := envOf (P := Try.prog) zer (fun _ => false) (fun _ => false) [con37] []
theorem E1_ok : EnvOk Try.prog E1 := envOk zer_ok
theorem cmp_pc {a : Int} : PC Try.prog 33 [.lit (.int .i64 a), .lit (.int .i64 0)] (.lit (.int .i64 (sgn a))) := by
  unfold sgn
  by_cases h1 : a < 0
  · have z : decide (a < 0) = true := decide_eq_true h1
    rw [if_pos h1]
    refine pc_of E1_ok mixed (fun _ => [0, 1, 4, 5, 6, 11, 12, 13, 16, 19]) Try.func33 rfl (by kernel_rfl) (Nat.le_of_ble_eq_true rfl) ?_
    simp only [initF_cons, initF_nil, Nat.reduceAdd]
    refine t_name fun KF => ?_
    unfold E1
    repeat' (first
      | with_reducible refine t_seq fun K => ?_
      | with_reducible refine t_block ?_
      | with_reducible refine t_scope ?_
      | with_reducible refine t_label ?_
      | with_reducible refine t_skip ?_
      | with_reducible refine t_exit ?_
      | with_reducible refine t_ret ?_
      | with_reducible refine t_k ?_
      | (with_reducible refine t_gF ?_)
      | ((first | with_reducible refine t_kE ?_ | with_reducible refine t_kD ?_ | with_reducible refine t_gS ?_ | with_reducible refine t_kL ?_ | (with_reducible refine t_kLE ?_ ?_; rotate_left) | with_reducible refine t_region fun K => ?_ | with_reducible refine t_draw (by kernel_rfl) fun K => ?_); simp only [go_sem, Int.cast_ofNat_Int, Nat.reduceEqDiff, reduceIte, Nat.reduceAdd, Nat.reduceMul, Nat.reduceLeDiff, Nat.reduceSub, Nat.reduceLT, Nat.zero_lt_succ, Int.reduceToNat, Int.reduceAdd, Int.reduceSub, Int.reduceMul, Int.reduceNeg, Int.reduceLT, Int.reduceLE, Int.reduceEq, Int.reduceBEq, Int.reduceBNe, Nat.reduceBEq, List.reduceReplicate, con37_f, con37_c, z])
      | (with_reducible exact kp_nil)
      | (with_reducible exact Kp.refl _)
      | (with_reducible exact kp_to)
      | (with_reducible refine kp_cons ?_)
      | (with_reducible refine kp_arr ?_)
      | (with_reducible refine kp_app ?_)
      | ((with_reducible refine t_cond fun A B => ?_); simp only [go_sem, Int.cast_ofNat_Int, Nat.reduceEqDiff, reduceIte, Nat.reduceAdd, Nat.reduceMul, Nat.reduceLeDiff, Nat.reduceSub, Nat.reduceLT, Nat.zero_lt_succ, Int.reduceToNat, Int.reduceAdd, Int.reduceSub, Int.reduceMul, Int.reduceNeg, Int.reduceLT, Int.reduceLE, Int.reduceEq, Int.reduceBEq, Int.reduceBNe, Nat.reduceBEq, List.reduceReplicate, con37_f, con37_c, z]; first | (with_reducible refine A.h ?_) | (with_reducible refine B.h ?_) | refine And.intro (fun hc => A.h ?_) (fun hc => B.h ?_))
      | simp only [thenQ_n, thenQ_r, thenQ_e, blockQ_n, blockQ_r, blockQ_e, scopeQ_n, scopeQ_r, scopeQ_e, Nat.reduceEqDiff, reduceIte]
      | (with_reducible refine And.intro ?_ ?_)
      | with_reducible intro vr)
    refine end_ret rfl ?_
    simp only [fin, go_sem, Int.cast_ofNat_Int, Nat.reduceEqDiff, reduceIte, Nat.reduceAdd, Nat.reduceMul, Nat.reduceLeDiff, Nat.reduceSub, Nat.reduceLT, Nat.zero_lt_succ, Int.reduceToNat, Int.reduceAdd, Int.reduceSub, Int.reduceMul, Int.reduceNeg, Int.reduceLT, Int.reduceLE, Int.reduceEq, Int.reduceBEq, Int.reduceBNe, Nat.reduceBEq, List.reduceReplicate]
    exact LeA.refl _
  have z : decide (a < 0) = false := decide_eq_false h1
  rw [if_neg h1]
  by_cases h2 : a > 0
  · have z2 : decide (a > 0) = true := decide_eq_true h2
    rw [if_pos h2]
    refine pc_of E1_ok mixed (fun _ => [0, 1, 4, 5, 6, 11, 12, 13, 16, 19]) Try.func33 rfl (by kernel_rfl) (Nat.le_of_ble_eq_true rfl) ?_
    simp only [initF_cons, initF_nil, Nat.reduceAdd]
    refine t_name fun KF => ?_
    unfold E1
    repeat' (first
      | with_reducible refine t_seq fun K => ?_
      | with_reducible refine t_block ?_
      | with_reducible refine t_scope ?_
      | with_reducible refine t_label ?_
      | with_reducible refine t_skip ?_
      | with_reducible refine t_exit ?_
      | with_reducible refine t_ret ?_
      | with_reducible refine t_k ?_
      | (with_reducible refine t_gF ?_)
      | ((first | with_reducible refine t_kE ?_ | with_reducible refine t_kD ?_ | with_reducible refine t_gS ?_ | with_reducible refine t_kL ?_ | (with_reducible refine t_kLE ?_ ?_; rotate_left) | with_reducible refine t_region fun K => ?_ | with_reducible refine t_draw (by kernel_rfl) fun K => ?_); simp only [go_sem, Int.cast_ofNat_Int, Nat.reduceEqDiff, reduceIte, Nat.reduceAdd, Nat.reduceMul, Nat.reduceLeDiff, Nat.reduceSub, Nat.reduceLT, Nat.zero_lt_succ, Int.reduceToNat, Int.reduceAdd, Int.reduceSub, Int.reduceMul, Int.reduceNeg, Int.reduceLT, Int.reduceLE, Int.reduceEq, Int.reduceBEq, Int.reduceBNe, Nat.reduceBEq, List.reduceReplicate, con37_f, con37_c, z, z2])
      | (with_reducible exact kp_nil)
      | (with_reducible exact Kp.refl _)
      | (with_reducible exact kp_to)
      | (with_reducible refine kp_cons ?_)
      | (with_reducible refine kp_arr ?_)
      | (with_reducible refine kp_app ?_)
      | ((with_reducible refine t_cond fun A B => ?_); simp only [go_sem, Int.cast_ofNat_Int, Nat.reduceEqDiff, reduceIte, Nat.reduceAdd, Nat.reduceMul, Nat.reduceLeDiff, Nat.reduceSub, Nat.reduceLT, Nat.zero_lt_succ, Int.reduceToNat, Int.reduceAdd, Int.reduceSub, Int.reduceMul, Int.reduceNeg, Int.reduceLT, Int.reduceLE, Int.reduceEq, Int.reduceBEq, Int.reduceBNe, Nat.reduceBEq, List.reduceReplicate, con37_f, con37_c, z, z2]; first | (with_reducible refine A.h ?_) | (with_reducible refine B.h ?_) | refine And.intro (fun hc => A.h ?_) (fun hc => B.h ?_))
      | simp only [thenQ_n, thenQ_r, thenQ_e, blockQ_n, blockQ_r, blockQ_e, scopeQ_n, scopeQ_r, scopeQ_e, Nat.reduceEqDiff, reduceIte]
      | (with_reducible refine And.intro ?_ ?_)
      | with_reducible intro vr)
    refine end_ret rfl ?_
    simp only [fin, go_sem, Int.cast_ofNat_Int, Nat.reduceEqDiff, reduceIte, Nat.reduceAdd, Nat.reduceMul, Nat.reduceLeDiff, Nat.reduceSub, Nat.reduceLT, Nat.zero_lt_succ, Int.reduceToNat, Int.reduceAdd, Int.reduceSub, Int.reduceMul, Int.reduceNeg, Int.reduceLT, Int.reduceLE, Int.reduceEq, Int.reduceBEq, Int.reduceBNe, Nat.reduceBEq, List.reduceReplicate]
    exact LeA.refl _
  · have z2 : decide (a > 0) = false := decide_eq_false h2
    rw [if_neg h2]
    refine pc_of E1_ok mixed (fun _ => [0, 1, 4, 5, 6, 11, 12, 13, 16, 19]) Try.func33 rfl (by kernel_rfl) (Nat.le_of_ble_eq_true rfl) ?_
    simp only [initF_cons, initF_nil, Nat.reduceAdd]
    refine t_name fun KF => ?_
    unfold E1
    repeat' (first
      | with_reducible refine t_seq fun K => ?_
      | with_reducible refine t_block ?_
      | with_reducible refine t_scope ?_
      | with_reducible refine t_label ?_
      | with_reducible refine t_skip ?_
      | with_reducible refine t_exit ?_
      | with_reducible refine t_ret ?_
      | with_reducible refine t_k ?_
      | (with_reducible refine t_gF ?_)
      | ((first | with_reducible refine t_kE ?_ | with_reducible refine t_kD ?_ | with_reducible refine t_gS ?_ | with_reducible refine t_kL ?_ | (with_reducible refine t_kLE ?_ ?_; rotate_left) | with_reducible refine t_region fun K => ?_ | with_reducible refine t_draw (by kernel_rfl) fun K => ?_); simp only [go_sem, Int.cast_ofNat_Int, Nat.reduceEqDiff, reduceIte, Nat.reduceAdd, Nat.reduceMul, Nat.reduceLeDiff, Nat.reduceSub, Nat.reduceLT, Nat.zero_lt_succ, Int.reduceToNat, Int.reduceAdd, Int.reduceSub, Int.reduceMul, Int.reduceNeg, Int.reduceLT, Int.reduceLE, Int.reduceEq, Int.reduceBEq, Int.reduceBNe, Nat.reduceBEq, List.reduceReplicate, con37_f, con37_c, z, z2])
      | (with_reducible exact kp_nil)
      | (with_reducible exact Kp.refl _)
      | (with_reducible exact kp_to)
      | (with_reducible refine kp_cons ?_)
      | (with_reducible refine kp_arr ?_)
      | (with_reducible refine kp_app ?_)
      | ((with_reducible refine t_cond fun A B => ?_); simp only [go_sem, Int.cast_ofNat_Int, Nat.reduceEqDiff, reduceIte, Nat.reduceAdd, Nat.reduceMul, Nat.reduceLeDiff, Nat.reduceSub, Nat.reduceLT, Nat.zero_lt_succ, Int.reduceToNat, Int.reduceAdd, Int.reduceSub, Int.reduceMul, Int.reduceNeg, Int.reduceLT, Int.reduceLE, Int.reduceEq, Int.reduceBEq, Int.reduceBNe, Nat.reduceBEq, List.reduceReplicate, con37_f, con37_c, z, z2]; first | (with_reducible refine A.h ?_) | (with_reducible refine B.h ?_) | refine And.intro (fun hc => A.h ?_) (fun hc => B.h ?_))
      | simp only [thenQ_n, thenQ_r, thenQ_e, blockQ_n, blockQ_r, blockQ_e, scopeQ_n, scopeQ_r, scopeQ_e, Nat.reduceEqDiff, reduceIte]
      | (with_reducible refine And.intro ?_ ?_)
      | with_reducible intro vr)
    refine end_ret rfl ?_
    simp only [fin, go_sem, Int.cast_ofNat_Int, Nat.reduceEqDiff, reduceIte, Nat.reduceAdd, Nat.reduceMul, Nat.reduceLeDiff, Nat.reduceSub, Nat.reduceLT, Nat.zero_lt_succ, Int.reduceToNat, Int.reduceAdd, Int.reduceSub, Int.reduceMul, Int.reduceNeg, Int.reduceLT, Int.reduceLE, Int.reduceEq, Int.reduceBEq, Int.reduceBNe, Nat.reduceBEq, List.reduceReplicate]
    exact LeA.refl _
noncomputable def con33 : PCon Try.prog where
  f := 33
  c := fun
    | [.lit (.int .i64 a), .lit (.int .i64 0)] => some (True, .lit (.int .i64 (sgn a)))
    | _ => none
  ok := by
    intro args p r hc hp
    split at hc
    · cases hc; exact cmp_pc
    · cases hc
  fk := fk33
theorem con33_f : con33.f = 33 := rfl
theorem con33_c {a : Int} : con33.c [.lit (.int .i64 a), .lit (.int .i64 0)] = some (True, .lit (.int .i64 (sgn a))) := rfl

/-! ### Ranges -/
def sInt : ByteArray := ⟨#[105, 110, 116]⟩
def sBool : ByteArray := ⟨#[98, 111, 111, 108]⟩
def sA : ByteArray := ⟨#[65]⟩
def vld (s : ByteArray) (n : Int) : Bool := if eqS s sInt = true then decide (-2147483648 ≤ n ∧ n ≤ 2147483647) else if eqS s sBool = true then decide (n = 0 ∨ n = 1) else false
theorem eqS_iff {a b : ByteArray} : eqS a b = true ↔ a = b := by
  unfold eqS
  rw [beq_iff_eq]
  constructor
  · intro h
    apply ByteArray.ext
    apply Array.ext'
    simpa using h
  · intro h; rw [h]
theorem eqS_refl (b : ByteArray) : eqS b b = true := eqS_iff.2 rfl
theorem vld_pc {f : FuncId} {s : ByteArray} {n : Int} (hf : f = 14 ∨ f = 19) : PC Try.prog f [.lit (.string s), .lit (.int .i64 n)] (.lit (.bool (vld s n))) := by
  unfold vld sInt sBool
  by_cases h1 : eqS s ⟨#[105, 110, 116]⟩ = true
  · have hs : s = ⟨#[105, 110, 116]⟩ := eqS_iff.1 h1
    have h2 : eqS s ⟨#[98, 111, 111, 108]⟩ = false := by rw [hs]; rfl
    rw [if_pos h1]
    by_cases h3 : n ≥ -2147483648
    · have z3 : decide (n ≥ -2147483648) = true := decide_eq_true h3
      have e : decide (-2147483648 ≤ n ∧ n ≤ 2147483647) = decide (n ≤ 2147483647) := by simp; omega
      rw [e]
      rcases hf with rfl | rfl
      · skip
        refine pc_of E0_ok mixed (fun _ => [0, 1, 4, 5, 6, 14]) Try.func14 rfl (by kernel_rfl) (Nat.le_of_ble_eq_true rfl) ?_
        simp only [initF_cons, initF_nil, Nat.reduceAdd]
        refine t_name fun KF => ?_
        unfold E0
        repeat' (first
          | with_reducible refine t_seq fun K => ?_
          | with_reducible refine t_block ?_
          | with_reducible refine t_scope ?_
          | with_reducible refine t_label ?_
          | with_reducible refine t_skip ?_
          | with_reducible refine t_exit ?_
          | with_reducible refine t_ret ?_
          | with_reducible refine t_k ?_
          | (with_reducible refine t_gF ?_)
          | ((first | with_reducible refine t_kE ?_ | with_reducible refine t_kD ?_ | with_reducible refine t_gS ?_ | with_reducible refine t_kL ?_ | (with_reducible refine t_kLE ?_ ?_; rotate_left) | with_reducible refine t_region fun K => ?_ | with_reducible refine t_draw (by kernel_rfl) fun K => ?_); simp only [go_sem, Int.cast_ofNat_Int, Nat.reduceEqDiff, reduceIte, Nat.reduceAdd, Nat.reduceMul, Nat.reduceLeDiff, Nat.reduceSub, Nat.reduceLT, Nat.zero_lt_succ, Int.reduceToNat, Int.reduceAdd, Int.reduceSub, Int.reduceMul, Int.reduceNeg, Int.reduceLT, Int.reduceLE, Int.reduceEq, Int.reduceBEq, Int.reduceBNe, Nat.reduceBEq, List.reduceReplicate, h1, h2, z3])
          | (with_reducible exact kp_nil)
          | (with_reducible exact Kp.refl _)
          | (with_reducible exact kp_to)
          | (with_reducible refine kp_cons ?_)
          | (with_reducible refine kp_arr ?_)
          | (with_reducible refine kp_app ?_)
          | ((with_reducible refine t_cond fun A B => ?_); simp only [go_sem, Int.cast_ofNat_Int, Nat.reduceEqDiff, reduceIte, Nat.reduceAdd, Nat.reduceMul, Nat.reduceLeDiff, Nat.reduceSub, Nat.reduceLT, Nat.zero_lt_succ, Int.reduceToNat, Int.reduceAdd, Int.reduceSub, Int.reduceMul, Int.reduceNeg, Int.reduceLT, Int.reduceLE, Int.reduceEq, Int.reduceBEq, Int.reduceBNe, Nat.reduceBEq, List.reduceReplicate, h1, h2, z3]; first | (with_reducible refine A.h ?_) | (with_reducible refine B.h ?_) | refine And.intro (fun hc => A.h ?_) (fun hc => B.h ?_))
          | simp only [thenQ_n, thenQ_r, thenQ_e, blockQ_n, blockQ_r, blockQ_e, scopeQ_n, scopeQ_r, scopeQ_e, Nat.reduceEqDiff, reduceIte]
          | (with_reducible refine And.intro ?_ ?_)
          | with_reducible intro vr)
        refine end_ret rfl ?_
        simp only [fin, go_sem, Int.cast_ofNat_Int, Nat.reduceEqDiff, reduceIte, Nat.reduceAdd, Nat.reduceMul, Nat.reduceLeDiff, Nat.reduceSub, Nat.reduceLT, Nat.zero_lt_succ, Int.reduceToNat, Int.reduceAdd, Int.reduceSub, Int.reduceMul, Int.reduceNeg, Int.reduceLT, Int.reduceLE, Int.reduceEq, Int.reduceBEq, Int.reduceBNe, Nat.reduceBEq, List.reduceReplicate]
        exact LeA.refl _
      · skip
        refine pc_of E0_ok mixed (fun _ => [0, 1, 4, 6]) Try.func19 rfl (by kernel_rfl) (Nat.le_of_ble_eq_true rfl) ?_
        simp only [initF_cons, initF_nil, Nat.reduceAdd]
        refine t_name fun KF => ?_
        unfold E0
        repeat' (first
          | with_reducible refine t_seq fun K => ?_
          | with_reducible refine t_block ?_
          | with_reducible refine t_scope ?_
          | with_reducible refine t_label ?_
          | with_reducible refine t_skip ?_
          | with_reducible refine t_exit ?_
          | with_reducible refine t_ret ?_
          | with_reducible refine t_k ?_
          | (with_reducible refine t_gF ?_)
          | ((first | with_reducible refine t_kE ?_ | with_reducible refine t_kD ?_ | with_reducible refine t_gS ?_ | with_reducible refine t_kL ?_ | (with_reducible refine t_kLE ?_ ?_; rotate_left) | with_reducible refine t_region fun K => ?_ | with_reducible refine t_draw (by kernel_rfl) fun K => ?_); simp only [go_sem, Int.cast_ofNat_Int, Nat.reduceEqDiff, reduceIte, Nat.reduceAdd, Nat.reduceMul, Nat.reduceLeDiff, Nat.reduceSub, Nat.reduceLT, Nat.zero_lt_succ, Int.reduceToNat, Int.reduceAdd, Int.reduceSub, Int.reduceMul, Int.reduceNeg, Int.reduceLT, Int.reduceLE, Int.reduceEq, Int.reduceBEq, Int.reduceBNe, Nat.reduceBEq, List.reduceReplicate, h1, h2, z3])
          | (with_reducible exact kp_nil)
          | (with_reducible exact Kp.refl _)
          | (with_reducible exact kp_to)
          | (with_reducible refine kp_cons ?_)
          | (with_reducible refine kp_arr ?_)
          | (with_reducible refine kp_app ?_)
          | ((with_reducible refine t_cond fun A B => ?_); simp only [go_sem, Int.cast_ofNat_Int, Nat.reduceEqDiff, reduceIte, Nat.reduceAdd, Nat.reduceMul, Nat.reduceLeDiff, Nat.reduceSub, Nat.reduceLT, Nat.zero_lt_succ, Int.reduceToNat, Int.reduceAdd, Int.reduceSub, Int.reduceMul, Int.reduceNeg, Int.reduceLT, Int.reduceLE, Int.reduceEq, Int.reduceBEq, Int.reduceBNe, Nat.reduceBEq, List.reduceReplicate, h1, h2, z3]; first | (with_reducible refine A.h ?_) | (with_reducible refine B.h ?_) | refine And.intro (fun hc => A.h ?_) (fun hc => B.h ?_))
          | simp only [thenQ_n, thenQ_r, thenQ_e, blockQ_n, blockQ_r, blockQ_e, scopeQ_n, scopeQ_r, scopeQ_e, Nat.reduceEqDiff, reduceIte]
          | (with_reducible refine And.intro ?_ ?_)
          | with_reducible intro vr)
        refine end_ret rfl ?_
        simp only [fin, go_sem, Int.cast_ofNat_Int, Nat.reduceEqDiff, reduceIte, Nat.reduceAdd, Nat.reduceMul, Nat.reduceLeDiff, Nat.reduceSub, Nat.reduceLT, Nat.zero_lt_succ, Int.reduceToNat, Int.reduceAdd, Int.reduceSub, Int.reduceMul, Int.reduceNeg, Int.reduceLT, Int.reduceLE, Int.reduceEq, Int.reduceBEq, Int.reduceBNe, Nat.reduceBEq, List.reduceReplicate]
        exact LeA.refl _
    · have z3 : decide (n ≥ -2147483648) = false := decide_eq_false h3
      have e : decide (-2147483648 ≤ n ∧ n ≤ 2147483647) = false := by simp; omega
      rw [e]
      rcases hf with rfl | rfl
      · skip
        refine pc_of E0_ok mixed (fun _ => [0, 1, 4, 5, 6, 14]) Try.func14 rfl (by kernel_rfl) (Nat.le_of_ble_eq_true rfl) ?_
        simp only [initF_cons, initF_nil, Nat.reduceAdd]
        refine t_name fun KF => ?_
        unfold E0
        repeat' (first
          | with_reducible refine t_seq fun K => ?_
          | with_reducible refine t_block ?_
          | with_reducible refine t_scope ?_
          | with_reducible refine t_label ?_
          | with_reducible refine t_skip ?_
          | with_reducible refine t_exit ?_
          | with_reducible refine t_ret ?_
          | with_reducible refine t_k ?_
          | (with_reducible refine t_gF ?_)
          | ((first | with_reducible refine t_kE ?_ | with_reducible refine t_kD ?_ | with_reducible refine t_gS ?_ | with_reducible refine t_kL ?_ | (with_reducible refine t_kLE ?_ ?_; rotate_left) | with_reducible refine t_region fun K => ?_ | with_reducible refine t_draw (by kernel_rfl) fun K => ?_); simp only [go_sem, Int.cast_ofNat_Int, Nat.reduceEqDiff, reduceIte, Nat.reduceAdd, Nat.reduceMul, Nat.reduceLeDiff, Nat.reduceSub, Nat.reduceLT, Nat.zero_lt_succ, Int.reduceToNat, Int.reduceAdd, Int.reduceSub, Int.reduceMul, Int.reduceNeg, Int.reduceLT, Int.reduceLE, Int.reduceEq, Int.reduceBEq, Int.reduceBNe, Nat.reduceBEq, List.reduceReplicate, h1, h2, z3])
          | (with_reducible exact kp_nil)
          | (with_reducible exact Kp.refl _)
          | (with_reducible exact kp_to)
          | (with_reducible refine kp_cons ?_)
          | (with_reducible refine kp_arr ?_)
          | (with_reducible refine kp_app ?_)
          | ((with_reducible refine t_cond fun A B => ?_); simp only [go_sem, Int.cast_ofNat_Int, Nat.reduceEqDiff, reduceIte, Nat.reduceAdd, Nat.reduceMul, Nat.reduceLeDiff, Nat.reduceSub, Nat.reduceLT, Nat.zero_lt_succ, Int.reduceToNat, Int.reduceAdd, Int.reduceSub, Int.reduceMul, Int.reduceNeg, Int.reduceLT, Int.reduceLE, Int.reduceEq, Int.reduceBEq, Int.reduceBNe, Nat.reduceBEq, List.reduceReplicate, h1, h2, z3]; first | (with_reducible refine A.h ?_) | (with_reducible refine B.h ?_) | refine And.intro (fun hc => A.h ?_) (fun hc => B.h ?_))
          | simp only [thenQ_n, thenQ_r, thenQ_e, blockQ_n, blockQ_r, blockQ_e, scopeQ_n, scopeQ_r, scopeQ_e, Nat.reduceEqDiff, reduceIte]
          | (with_reducible refine And.intro ?_ ?_)
          | with_reducible intro vr)
        refine end_ret rfl ?_
        simp only [fin, go_sem, Int.cast_ofNat_Int, Nat.reduceEqDiff, reduceIte, Nat.reduceAdd, Nat.reduceMul, Nat.reduceLeDiff, Nat.reduceSub, Nat.reduceLT, Nat.zero_lt_succ, Int.reduceToNat, Int.reduceAdd, Int.reduceSub, Int.reduceMul, Int.reduceNeg, Int.reduceLT, Int.reduceLE, Int.reduceEq, Int.reduceBEq, Int.reduceBNe, Nat.reduceBEq, List.reduceReplicate]
        exact LeA.refl _
      · skip
        refine pc_of E0_ok mixed (fun _ => [0, 1, 4, 6]) Try.func19 rfl (by kernel_rfl) (Nat.le_of_ble_eq_true rfl) ?_
        simp only [initF_cons, initF_nil, Nat.reduceAdd]
        refine t_name fun KF => ?_
        unfold E0
        repeat' (first
          | with_reducible refine t_seq fun K => ?_
          | with_reducible refine t_block ?_
          | with_reducible refine t_scope ?_
          | with_reducible refine t_label ?_
          | with_reducible refine t_skip ?_
          | with_reducible refine t_exit ?_
          | with_reducible refine t_ret ?_
          | with_reducible refine t_k ?_
          | (with_reducible refine t_gF ?_)
          | ((first | with_reducible refine t_kE ?_ | with_reducible refine t_kD ?_ | with_reducible refine t_gS ?_ | with_reducible refine t_kL ?_ | (with_reducible refine t_kLE ?_ ?_; rotate_left) | with_reducible refine t_region fun K => ?_ | with_reducible refine t_draw (by kernel_rfl) fun K => ?_); simp only [go_sem, Int.cast_ofNat_Int, Nat.reduceEqDiff, reduceIte, Nat.reduceAdd, Nat.reduceMul, Nat.reduceLeDiff, Nat.reduceSub, Nat.reduceLT, Nat.zero_lt_succ, Int.reduceToNat, Int.reduceAdd, Int.reduceSub, Int.reduceMul, Int.reduceNeg, Int.reduceLT, Int.reduceLE, Int.reduceEq, Int.reduceBEq, Int.reduceBNe, Nat.reduceBEq, List.reduceReplicate, h1, h2, z3])
          | (with_reducible exact kp_nil)
          | (with_reducible exact Kp.refl _)
          | (with_reducible exact kp_to)
          | (with_reducible refine kp_cons ?_)
          | (with_reducible refine kp_arr ?_)
          | (with_reducible refine kp_app ?_)
          | ((with_reducible refine t_cond fun A B => ?_); simp only [go_sem, Int.cast_ofNat_Int, Nat.reduceEqDiff, reduceIte, Nat.reduceAdd, Nat.reduceMul, Nat.reduceLeDiff, Nat.reduceSub, Nat.reduceLT, Nat.zero_lt_succ, Int.reduceToNat, Int.reduceAdd, Int.reduceSub, Int.reduceMul, Int.reduceNeg, Int.reduceLT, Int.reduceLE, Int.reduceEq, Int.reduceBEq, Int.reduceBNe, Nat.reduceBEq, List.reduceReplicate, h1, h2, z3]; first | (with_reducible refine A.h ?_) | (with_reducible refine B.h ?_) | refine And.intro (fun hc => A.h ?_) (fun hc => B.h ?_))
          | simp only [thenQ_n, thenQ_r, thenQ_e, blockQ_n, blockQ_r, blockQ_e, scopeQ_n, scopeQ_r, scopeQ_e, Nat.reduceEqDiff, reduceIte]
          | (with_reducible refine And.intro ?_ ?_)
          | with_reducible intro vr)
        refine end_ret rfl ?_
        simp only [fin, go_sem, Int.cast_ofNat_Int, Nat.reduceEqDiff, reduceIte, Nat.reduceAdd, Nat.reduceMul, Nat.reduceLeDiff, Nat.reduceSub, Nat.reduceLT, Nat.zero_lt_succ, Int.reduceToNat, Int.reduceAdd, Int.reduceSub, Int.reduceMul, Int.reduceNeg, Int.reduceLT, Int.reduceLE, Int.reduceEq, Int.reduceBEq, Int.reduceBNe, Nat.reduceBEq, List.reduceReplicate]
        exact LeA.refl _
  · have h1' : eqS s ⟨#[105, 110, 116]⟩ = false := by simpa using h1
    rw [if_neg h1]
    by_cases h2 : eqS s ⟨#[98, 111, 111, 108]⟩ = true
    · rw [if_pos h2]
      by_cases h3 : n = 0
      · have z3 : (n == 0) = true := by rw [beq_iff_eq]; exact h3
        have e : decide (n = 0 ∨ n = 1) = true := decide_eq_true (.inl h3)
        rw [e]
        rcases hf with rfl | rfl
        · skip
          refine pc_of E0_ok mixed (fun _ => [0, 1, 4, 5, 6, 14]) Try.func14 rfl (by kernel_rfl) (Nat.le_of_ble_eq_true rfl) ?_
          simp only [initF_cons, initF_nil, Nat.reduceAdd]
          refine t_name fun KF => ?_
          unfold E0
          repeat' (first
            | with_reducible refine t_seq fun K => ?_
            | with_reducible refine t_block ?_
            | with_reducible refine t_scope ?_
            | with_reducible refine t_label ?_
            | with_reducible refine t_skip ?_
            | with_reducible refine t_exit ?_
            | with_reducible refine t_ret ?_
            | with_reducible refine t_k ?_
            | (with_reducible refine t_gF ?_)
            | ((first | with_reducible refine t_kE ?_ | with_reducible refine t_kD ?_ | with_reducible refine t_gS ?_ | with_reducible refine t_kL ?_ | (with_reducible refine t_kLE ?_ ?_; rotate_left) | with_reducible refine t_region fun K => ?_ | with_reducible refine t_draw (by kernel_rfl) fun K => ?_); simp only [go_sem, Int.cast_ofNat_Int, Nat.reduceEqDiff, reduceIte, Nat.reduceAdd, Nat.reduceMul, Nat.reduceLeDiff, Nat.reduceSub, Nat.reduceLT, Nat.zero_lt_succ, Int.reduceToNat, Int.reduceAdd, Int.reduceSub, Int.reduceMul, Int.reduceNeg, Int.reduceLT, Int.reduceLE, Int.reduceEq, Int.reduceBEq, Int.reduceBNe, Nat.reduceBEq, List.reduceReplicate, h1', h2, z3])
            | (with_reducible exact kp_nil)
            | (with_reducible exact Kp.refl _)
            | (with_reducible exact kp_to)
            | (with_reducible refine kp_cons ?_)
            | (with_reducible refine kp_arr ?_)
            | (with_reducible refine kp_app ?_)
            | ((with_reducible refine t_cond fun A B => ?_); simp only [go_sem, Int.cast_ofNat_Int, Nat.reduceEqDiff, reduceIte, Nat.reduceAdd, Nat.reduceMul, Nat.reduceLeDiff, Nat.reduceSub, Nat.reduceLT, Nat.zero_lt_succ, Int.reduceToNat, Int.reduceAdd, Int.reduceSub, Int.reduceMul, Int.reduceNeg, Int.reduceLT, Int.reduceLE, Int.reduceEq, Int.reduceBEq, Int.reduceBNe, Nat.reduceBEq, List.reduceReplicate, h1', h2, z3]; first | (with_reducible refine A.h ?_) | (with_reducible refine B.h ?_) | refine And.intro (fun hc => A.h ?_) (fun hc => B.h ?_))
            | simp only [thenQ_n, thenQ_r, thenQ_e, blockQ_n, blockQ_r, blockQ_e, scopeQ_n, scopeQ_r, scopeQ_e, Nat.reduceEqDiff, reduceIte]
            | (with_reducible refine And.intro ?_ ?_)
            | with_reducible intro vr)
          refine end_ret rfl ?_
          simp only [fin, go_sem, Int.cast_ofNat_Int, Nat.reduceEqDiff, reduceIte, Nat.reduceAdd, Nat.reduceMul, Nat.reduceLeDiff, Nat.reduceSub, Nat.reduceLT, Nat.zero_lt_succ, Int.reduceToNat, Int.reduceAdd, Int.reduceSub, Int.reduceMul, Int.reduceNeg, Int.reduceLT, Int.reduceLE, Int.reduceEq, Int.reduceBEq, Int.reduceBNe, Nat.reduceBEq, List.reduceReplicate]
          exact LeA.refl _
        · skip
          refine pc_of E0_ok mixed (fun _ => [0, 1, 4, 6]) Try.func19 rfl (by kernel_rfl) (Nat.le_of_ble_eq_true rfl) ?_
          simp only [initF_cons, initF_nil, Nat.reduceAdd]
          refine t_name fun KF => ?_
          unfold E0
          repeat' (first
            | with_reducible refine t_seq fun K => ?_
            | with_reducible refine t_block ?_
            | with_reducible refine t_scope ?_
            | with_reducible refine t_label ?_
            | with_reducible refine t_skip ?_
            | with_reducible refine t_exit ?_
            | with_reducible refine t_ret ?_
            | with_reducible refine t_k ?_
            | (with_reducible refine t_gF ?_)
            | ((first | with_reducible refine t_kE ?_ | with_reducible refine t_kD ?_ | with_reducible refine t_gS ?_ | with_reducible refine t_kL ?_ | (with_reducible refine t_kLE ?_ ?_; rotate_left) | with_reducible refine t_region fun K => ?_ | with_reducible refine t_draw (by kernel_rfl) fun K => ?_); simp only [go_sem, Int.cast_ofNat_Int, Nat.reduceEqDiff, reduceIte, Nat.reduceAdd, Nat.reduceMul, Nat.reduceLeDiff, Nat.reduceSub, Nat.reduceLT, Nat.zero_lt_succ, Int.reduceToNat, Int.reduceAdd, Int.reduceSub, Int.reduceMul, Int.reduceNeg, Int.reduceLT, Int.reduceLE, Int.reduceEq, Int.reduceBEq, Int.reduceBNe, Nat.reduceBEq, List.reduceReplicate, h1', h2, z3])
            | (with_reducible exact kp_nil)
            | (with_reducible exact Kp.refl _)
            | (with_reducible exact kp_to)
            | (with_reducible refine kp_cons ?_)
            | (with_reducible refine kp_arr ?_)
            | (with_reducible refine kp_app ?_)
            | ((with_reducible refine t_cond fun A B => ?_); simp only [go_sem, Int.cast_ofNat_Int, Nat.reduceEqDiff, reduceIte, Nat.reduceAdd, Nat.reduceMul, Nat.reduceLeDiff, Nat.reduceSub, Nat.reduceLT, Nat.zero_lt_succ, Int.reduceToNat, Int.reduceAdd, Int.reduceSub, Int.reduceMul, Int.reduceNeg, Int.reduceLT, Int.reduceLE, Int.reduceEq, Int.reduceBEq, Int.reduceBNe, Nat.reduceBEq, List.reduceReplicate, h1', h2, z3]; first | (with_reducible refine A.h ?_) | (with_reducible refine B.h ?_) | refine And.intro (fun hc => A.h ?_) (fun hc => B.h ?_))
            | simp only [thenQ_n, thenQ_r, thenQ_e, blockQ_n, blockQ_r, blockQ_e, scopeQ_n, scopeQ_r, scopeQ_e, Nat.reduceEqDiff, reduceIte]
            | (with_reducible refine And.intro ?_ ?_)
            | with_reducible intro vr)
          refine end_ret rfl ?_
          simp only [fin, go_sem, Int.cast_ofNat_Int, Nat.reduceEqDiff, reduceIte, Nat.reduceAdd, Nat.reduceMul, Nat.reduceLeDiff, Nat.reduceSub, Nat.reduceLT, Nat.zero_lt_succ, Int.reduceToNat, Int.reduceAdd, Int.reduceSub, Int.reduceMul, Int.reduceNeg, Int.reduceLT, Int.reduceLE, Int.reduceEq, Int.reduceBEq, Int.reduceBNe, Nat.reduceBEq, List.reduceReplicate]
          exact LeA.refl _
      · have z3 : (n == 0) = false := by rw [beq_eq_false_iff_ne]; exact h3
        have e : decide (n = 0 ∨ n = 1) = (n == 1) := by
          by_cases h4 : n = 1
          · subst h4; rfl
          · rw [decide_eq_false (by omega)]; symm; rw [beq_eq_false_iff_ne]; exact h4
        rw [e]
        rcases hf with rfl | rfl
        · skip
          refine pc_of E0_ok mixed (fun _ => [0, 1, 4, 5, 6, 14]) Try.func14 rfl (by kernel_rfl) (Nat.le_of_ble_eq_true rfl) ?_
          simp only [initF_cons, initF_nil, Nat.reduceAdd]
          refine t_name fun KF => ?_
          unfold E0
          repeat' (first
            | with_reducible refine t_seq fun K => ?_
            | with_reducible refine t_block ?_
            | with_reducible refine t_scope ?_
            | with_reducible refine t_label ?_
            | with_reducible refine t_skip ?_
            | with_reducible refine t_exit ?_
            | with_reducible refine t_ret ?_
            | with_reducible refine t_k ?_
            | (with_reducible refine t_gF ?_)
            | ((first | with_reducible refine t_kE ?_ | with_reducible refine t_kD ?_ | with_reducible refine t_gS ?_ | with_reducible refine t_kL ?_ | (with_reducible refine t_kLE ?_ ?_; rotate_left) | with_reducible refine t_region fun K => ?_ | with_reducible refine t_draw (by kernel_rfl) fun K => ?_); simp only [go_sem, Int.cast_ofNat_Int, Nat.reduceEqDiff, reduceIte, Nat.reduceAdd, Nat.reduceMul, Nat.reduceLeDiff, Nat.reduceSub, Nat.reduceLT, Nat.zero_lt_succ, Int.reduceToNat, Int.reduceAdd, Int.reduceSub, Int.reduceMul, Int.reduceNeg, Int.reduceLT, Int.reduceLE, Int.reduceEq, Int.reduceBEq, Int.reduceBNe, Nat.reduceBEq, List.reduceReplicate, h1', h2, z3])
            | (with_reducible exact kp_nil)
            | (with_reducible exact Kp.refl _)
            | (with_reducible exact kp_to)
            | (with_reducible refine kp_cons ?_)
            | (with_reducible refine kp_arr ?_)
            | (with_reducible refine kp_app ?_)
            | ((with_reducible refine t_cond fun A B => ?_); simp only [go_sem, Int.cast_ofNat_Int, Nat.reduceEqDiff, reduceIte, Nat.reduceAdd, Nat.reduceMul, Nat.reduceLeDiff, Nat.reduceSub, Nat.reduceLT, Nat.zero_lt_succ, Int.reduceToNat, Int.reduceAdd, Int.reduceSub, Int.reduceMul, Int.reduceNeg, Int.reduceLT, Int.reduceLE, Int.reduceEq, Int.reduceBEq, Int.reduceBNe, Nat.reduceBEq, List.reduceReplicate, h1', h2, z3]; first | (with_reducible refine A.h ?_) | (with_reducible refine B.h ?_) | refine And.intro (fun hc => A.h ?_) (fun hc => B.h ?_))
            | simp only [thenQ_n, thenQ_r, thenQ_e, blockQ_n, blockQ_r, blockQ_e, scopeQ_n, scopeQ_r, scopeQ_e, Nat.reduceEqDiff, reduceIte]
            | (with_reducible refine And.intro ?_ ?_)
            | with_reducible intro vr)
          refine end_ret rfl ?_
          simp only [fin, go_sem, Int.cast_ofNat_Int, Nat.reduceEqDiff, reduceIte, Nat.reduceAdd, Nat.reduceMul, Nat.reduceLeDiff, Nat.reduceSub, Nat.reduceLT, Nat.zero_lt_succ, Int.reduceToNat, Int.reduceAdd, Int.reduceSub, Int.reduceMul, Int.reduceNeg, Int.reduceLT, Int.reduceLE, Int.reduceEq, Int.reduceBEq, Int.reduceBNe, Nat.reduceBEq, List.reduceReplicate]
          exact LeA.refl _
        · skip
          refine pc_of E0_ok mixed (fun _ => [0, 1, 4, 6]) Try.func19 rfl (by kernel_rfl) (Nat.le_of_ble_eq_true rfl) ?_
          simp only [initF_cons, initF_nil, Nat.reduceAdd]
          refine t_name fun KF => ?_
          unfold E0
          repeat' (first
            | with_reducible refine t_seq fun K => ?_
            | with_reducible refine t_block ?_
            | with_reducible refine t_scope ?_
            | with_reducible refine t_label ?_
            | with_reducible refine t_skip ?_
            | with_reducible refine t_exit ?_
            | with_reducible refine t_ret ?_
            | with_reducible refine t_k ?_
            | (with_reducible refine t_gF ?_)
            | ((first | with_reducible refine t_kE ?_ | with_reducible refine t_kD ?_ | with_reducible refine t_gS ?_ | with_reducible refine t_kL ?_ | (with_reducible refine t_kLE ?_ ?_; rotate_left) | with_reducible refine t_region fun K => ?_ | with_reducible refine t_draw (by kernel_rfl) fun K => ?_); simp only [go_sem, Int.cast_ofNat_Int, Nat.reduceEqDiff, reduceIte, Nat.reduceAdd, Nat.reduceMul, Nat.reduceLeDiff, Nat.reduceSub, Nat.reduceLT, Nat.zero_lt_succ, Int.reduceToNat, Int.reduceAdd, Int.reduceSub, Int.reduceMul, Int.reduceNeg, Int.reduceLT, Int.reduceLE, Int.reduceEq, Int.reduceBEq, Int.reduceBNe, Nat.reduceBEq, List.reduceReplicate, h1', h2, z3])
            | (with_reducible exact kp_nil)
            | (with_reducible exact Kp.refl _)
            | (with_reducible exact kp_to)
            | (with_reducible refine kp_cons ?_)
            | (with_reducible refine kp_arr ?_)
            | (with_reducible refine kp_app ?_)
            | ((with_reducible refine t_cond fun A B => ?_); simp only [go_sem, Int.cast_ofNat_Int, Nat.reduceEqDiff, reduceIte, Nat.reduceAdd, Nat.reduceMul, Nat.reduceLeDiff, Nat.reduceSub, Nat.reduceLT, Nat.zero_lt_succ, Int.reduceToNat, Int.reduceAdd, Int.reduceSub, Int.reduceMul, Int.reduceNeg, Int.reduceLT, Int.reduceLE, Int.reduceEq, Int.reduceBEq, Int.reduceBNe, Nat.reduceBEq, List.reduceReplicate, h1', h2, z3]; first | (with_reducible refine A.h ?_) | (with_reducible refine B.h ?_) | refine And.intro (fun hc => A.h ?_) (fun hc => B.h ?_))
            | simp only [thenQ_n, thenQ_r, thenQ_e, blockQ_n, blockQ_r, blockQ_e, scopeQ_n, scopeQ_r, scopeQ_e, Nat.reduceEqDiff, reduceIte]
            | (with_reducible refine And.intro ?_ ?_)
            | with_reducible intro vr)
          refine end_ret rfl ?_
          simp only [fin, go_sem, Int.cast_ofNat_Int, Nat.reduceEqDiff, reduceIte, Nat.reduceAdd, Nat.reduceMul, Nat.reduceLeDiff, Nat.reduceSub, Nat.reduceLT, Nat.zero_lt_succ, Int.reduceToNat, Int.reduceAdd, Int.reduceSub, Int.reduceMul, Int.reduceNeg, Int.reduceLT, Int.reduceLE, Int.reduceEq, Int.reduceBEq, Int.reduceBNe, Nat.reduceBEq, List.reduceReplicate]
          exact LeA.refl _
    · have h2' : eqS s ⟨#[98, 111, 111, 108]⟩ = false := by simpa using h2
      rw [if_neg h2]
      rcases hf with rfl | rfl
      · skip
        refine pc_of E0_ok mixed (fun _ => [0, 1, 4, 5, 6, 14]) Try.func14 rfl (by kernel_rfl) (Nat.le_of_ble_eq_true rfl) ?_
        simp only [initF_cons, initF_nil, Nat.reduceAdd]
        refine t_name fun KF => ?_
        unfold E0
        repeat' (first
          | with_reducible refine t_seq fun K => ?_
          | with_reducible refine t_block ?_
          | with_reducible refine t_scope ?_
          | with_reducible refine t_label ?_
          | with_reducible refine t_skip ?_
          | with_reducible refine t_exit ?_
          | with_reducible refine t_ret ?_
          | with_reducible refine t_k ?_
          | (with_reducible refine t_gF ?_)
          | ((first | with_reducible refine t_kE ?_ | with_reducible refine t_kD ?_ | with_reducible refine t_gS ?_ | with_reducible refine t_kL ?_ | (with_reducible refine t_kLE ?_ ?_; rotate_left) | with_reducible refine t_region fun K => ?_ | with_reducible refine t_draw (by kernel_rfl) fun K => ?_); simp only [go_sem, Int.cast_ofNat_Int, Nat.reduceEqDiff, reduceIte, Nat.reduceAdd, Nat.reduceMul, Nat.reduceLeDiff, Nat.reduceSub, Nat.reduceLT, Nat.zero_lt_succ, Int.reduceToNat, Int.reduceAdd, Int.reduceSub, Int.reduceMul, Int.reduceNeg, Int.reduceLT, Int.reduceLE, Int.reduceEq, Int.reduceBEq, Int.reduceBNe, Nat.reduceBEq, List.reduceReplicate, h1', h2'])
          | (with_reducible exact kp_nil)
          | (with_reducible exact Kp.refl _)
          | (with_reducible exact kp_to)
          | (with_reducible refine kp_cons ?_)
          | (with_reducible refine kp_arr ?_)
          | (with_reducible refine kp_app ?_)
          | ((with_reducible refine t_cond fun A B => ?_); simp only [go_sem, Int.cast_ofNat_Int, Nat.reduceEqDiff, reduceIte, Nat.reduceAdd, Nat.reduceMul, Nat.reduceLeDiff, Nat.reduceSub, Nat.reduceLT, Nat.zero_lt_succ, Int.reduceToNat, Int.reduceAdd, Int.reduceSub, Int.reduceMul, Int.reduceNeg, Int.reduceLT, Int.reduceLE, Int.reduceEq, Int.reduceBEq, Int.reduceBNe, Nat.reduceBEq, List.reduceReplicate, h1', h2']; first | (with_reducible refine A.h ?_) | (with_reducible refine B.h ?_) | refine And.intro (fun hc => A.h ?_) (fun hc => B.h ?_))
          | simp only [thenQ_n, thenQ_r, thenQ_e, blockQ_n, blockQ_r, blockQ_e, scopeQ_n, scopeQ_r, scopeQ_e, Nat.reduceEqDiff, reduceIte]
          | (with_reducible refine And.intro ?_ ?_)
          | with_reducible intro vr)
        refine end_ret rfl ?_
        simp only [fin, go_sem, Int.cast_ofNat_Int, Nat.reduceEqDiff, reduceIte, Nat.reduceAdd, Nat.reduceMul, Nat.reduceLeDiff, Nat.reduceSub, Nat.reduceLT, Nat.zero_lt_succ, Int.reduceToNat, Int.reduceAdd, Int.reduceSub, Int.reduceMul, Int.reduceNeg, Int.reduceLT, Int.reduceLE, Int.reduceEq, Int.reduceBEq, Int.reduceBNe, Nat.reduceBEq, List.reduceReplicate]
        exact LeA.refl _
      · skip
        refine pc_of E0_ok mixed (fun _ => [0, 1, 4, 6]) Try.func19 rfl (by kernel_rfl) (Nat.le_of_ble_eq_true rfl) ?_
        simp only [initF_cons, initF_nil, Nat.reduceAdd]
        refine t_name fun KF => ?_
        unfold E0
        repeat' (first
          | with_reducible refine t_seq fun K => ?_
          | with_reducible refine t_block ?_
          | with_reducible refine t_scope ?_
          | with_reducible refine t_label ?_
          | with_reducible refine t_skip ?_
          | with_reducible refine t_exit ?_
          | with_reducible refine t_ret ?_
          | with_reducible refine t_k ?_
          | (with_reducible refine t_gF ?_)
          | ((first | with_reducible refine t_kE ?_ | with_reducible refine t_kD ?_ | with_reducible refine t_gS ?_ | with_reducible refine t_kL ?_ | (with_reducible refine t_kLE ?_ ?_; rotate_left) | with_reducible refine t_region fun K => ?_ | with_reducible refine t_draw (by kernel_rfl) fun K => ?_); simp only [go_sem, Int.cast_ofNat_Int, Nat.reduceEqDiff, reduceIte, Nat.reduceAdd, Nat.reduceMul, Nat.reduceLeDiff, Nat.reduceSub, Nat.reduceLT, Nat.zero_lt_succ, Int.reduceToNat, Int.reduceAdd, Int.reduceSub, Int.reduceMul, Int.reduceNeg, Int.reduceLT, Int.reduceLE, Int.reduceEq, Int.reduceBEq, Int.reduceBNe, Nat.reduceBEq, List.reduceReplicate, h1', h2'])
          | (with_reducible exact kp_nil)
          | (with_reducible exact Kp.refl _)
          | (with_reducible exact kp_to)
          | (with_reducible refine kp_cons ?_)
          | (with_reducible refine kp_arr ?_)
          | (with_reducible refine kp_app ?_)
          | ((with_reducible refine t_cond fun A B => ?_); simp only [go_sem, Int.cast_ofNat_Int, Nat.reduceEqDiff, reduceIte, Nat.reduceAdd, Nat.reduceMul, Nat.reduceLeDiff, Nat.reduceSub, Nat.reduceLT, Nat.zero_lt_succ, Int.reduceToNat, Int.reduceAdd, Int.reduceSub, Int.reduceMul, Int.reduceNeg, Int.reduceLT, Int.reduceLE, Int.reduceEq, Int.reduceBEq, Int.reduceBNe, Nat.reduceBEq, List.reduceReplicate, h1', h2']; first | (with_reducible refine A.h ?_) | (with_reducible refine B.h ?_) | refine And.intro (fun hc => A.h ?_) (fun hc => B.h ?_))
          | simp only [thenQ_n, thenQ_r, thenQ_e, blockQ_n, blockQ_r, blockQ_e, scopeQ_n, scopeQ_r, scopeQ_e, Nat.reduceEqDiff, reduceIte]
          | (with_reducible refine And.intro ?_ ?_)
          | with_reducible intro vr)
        refine end_ret rfl ?_
        simp only [fin, go_sem, Int.cast_ofNat_Int, Nat.reduceEqDiff, reduceIte, Nat.reduceAdd, Nat.reduceMul, Nat.reduceLeDiff, Nat.reduceSub, Nat.reduceLT, Nat.zero_lt_succ, Int.reduceToNat, Int.reduceAdd, Int.reduceSub, Int.reduceMul, Int.reduceNeg, Int.reduceLT, Int.reduceLE, Int.reduceEq, Int.reduceBEq, Int.reduceBNe, Nat.reduceBEq, List.reduceReplicate]
        exact LeA.refl _
noncomputable def vldCon (f : FuncId) (h : f = 14 ∨ f = 19) : PCon Try.prog where
  f := f
  c := fun
    | [.lit (.string s), .lit (.int .i64 n)] => some (True, .lit (.bool (vld s n)))
    | _ => none
  ok := by
    intro args p r hc hp
    split at hc
    · cases hc; exact vld_pc h
    · cases hc
  fk := by
    rcases h with rfl | rfl
    · exact fk14
    · exact fk19
noncomputable def con14 := vldCon 14 (.inl rfl)
noncomputable def con19 := vldCon 19 (.inr rfl)
theorem con14_f : con14.f = 14 := rfl
theorem con19_f : con19.f = 19 := rfl
theorem con14_c {s : ByteArray} {n : Int} : con14.c [.lit (.string s), .lit (.int .i64 n)] = some (True, .lit (.bool (vld s n))) := rfl
theorem con19_c {s : ByteArray} {n : Int} : con19.c [.lit (.string s), .lit (.int .i64 n)] = some (True, .lit (.bool (vld s n))) := rfl
end Go.Proofs.Ytbmogpafhdbfdaa

/- The table of primitives; Types. -/
namespace Go.Proofs.Ytbmogpafhdbfdaa
open Go Go.Fw

theorem q_0_0 : eqS (⟨#[97, 100, 100]⟩ : ByteArray) (⟨#[97, 100, 100]⟩ : ByteArray) = true := rfl
theorem q_0_1 : eqS (⟨#[97, 100, 100]⟩ : ByteArray) (⟨#[115, 117, 98]⟩ : ByteArray) = false := rfl
theorem q_0_2 : eqS (⟨#[97, 100, 100]⟩ : ByteArray) (⟨#[109, 117, 108]⟩ : ByteArray) = false := rfl
theorem q_0_3 : eqS (⟨#[97, 100, 100]⟩ : ByteArray) (⟨#[100, 105, 118]⟩ : ByteArray) = false := rfl
theorem q_0_4 : eqS (⟨#[97, 100, 100]⟩ : ByteArray) (⟨#[109, 111, 100]⟩ : ByteArray) = false := rfl
theorem q_0_5 : eqS (⟨#[97, 100, 100]⟩ : ByteArray) (⟨#[109, 105, 110]⟩ : ByteArray) = false := rfl
theorem q_0_6 : eqS (⟨#[97, 100, 100]⟩ : ByteArray) (⟨#[109, 97, 120]⟩ : ByteArray) = false := rfl
theorem q_0_7 : eqS (⟨#[97, 100, 100]⟩ : ByteArray) (⟨#[110, 101, 103]⟩ : ByteArray) = false := rfl
theorem q_0_8 : eqS (⟨#[97, 100, 100]⟩ : ByteArray) (⟨#[97, 98, 115]⟩ : ByteArray) = false := rfl
theorem q_0_9 : eqS (⟨#[97, 100, 100]⟩ : ByteArray) (⟨#[115, 105, 103, 110]⟩ : ByteArray) = false := rfl
theorem q_0_10 : eqS (⟨#[97, 100, 100]⟩ : ByteArray) (⟨#[108, 116]⟩ : ByteArray) = false := rfl
theorem q_0_11 : eqS (⟨#[97, 100, 100]⟩ : ByteArray) (⟨#[108, 101]⟩ : ByteArray) = false := rfl
theorem q_0_12 : eqS (⟨#[97, 100, 100]⟩ : ByteArray) (⟨#[103, 116]⟩ : ByteArray) = false := rfl
theorem q_0_13 : eqS (⟨#[97, 100, 100]⟩ : ByteArray) (⟨#[103, 101]⟩ : ByteArray) = false := rfl
theorem q_0_14 : eqS (⟨#[97, 100, 100]⟩ : ByteArray) (⟨#[101, 113]⟩ : ByteArray) = false := rfl
theorem q_0_15 : eqS (⟨#[97, 100, 100]⟩ : ByteArray) (⟨#[110, 101]⟩ : ByteArray) = false := rfl
theorem q_0_16 : eqS (⟨#[97, 100, 100]⟩ : ByteArray) (⟨#[97, 110, 100]⟩ : ByteArray) = false := rfl
theorem q_0_17 : eqS (⟨#[97, 100, 100]⟩ : ByteArray) (⟨#[111, 114]⟩ : ByteArray) = false := rfl
theorem q_0_18 : eqS (⟨#[97, 100, 100]⟩ : ByteArray) (⟨#[120, 111, 114]⟩ : ByteArray) = false := rfl
theorem q_0_19 : eqS (⟨#[97, 100, 100]⟩ : ByteArray) (⟨#[110, 111, 116]⟩ : ByteArray) = false := rfl
theorem q_0_20 : eqS (⟨#[97, 100, 100]⟩ : ByteArray) (⟨#[115, 101, 108, 101, 99, 116]⟩ : ByteArray) = false := rfl
theorem q_0_21 : eqS (⟨#[97, 100, 100]⟩ : ByteArray) (⟨#[116, 111, 105, 110, 116]⟩ : ByteArray) = false := rfl
theorem q_0_22 : eqS (⟨#[97, 100, 100]⟩ : ByteArray) (⟨#[105, 110, 116]⟩ : ByteArray) = false := rfl
theorem q_0_23 : eqS (⟨#[97, 100, 100]⟩ : ByteArray) (⟨#[98, 111, 111, 108]⟩ : ByteArray) = false := rfl
theorem q_0_24 : eqS (⟨#[97, 100, 100]⟩ : ByteArray) (⟨#[65]⟩ : ByteArray) = false := rfl
theorem q_0_25 : eqS (⟨#[97, 100, 100]⟩ : ByteArray) (⟨#[]⟩ : ByteArray) = false := rfl
theorem q_1_0 : eqS (⟨#[115, 117, 98]⟩ : ByteArray) (⟨#[97, 100, 100]⟩ : ByteArray) = false := rfl
theorem q_1_1 : eqS (⟨#[115, 117, 98]⟩ : ByteArray) (⟨#[115, 117, 98]⟩ : ByteArray) = true := rfl
theorem q_1_2 : eqS (⟨#[115, 117, 98]⟩ : ByteArray) (⟨#[109, 117, 108]⟩ : ByteArray) = false := rfl
theorem q_1_3 : eqS (⟨#[115, 117, 98]⟩ : ByteArray) (⟨#[100, 105, 118]⟩ : ByteArray) = false := rfl
theorem q_1_4 : eqS (⟨#[115, 117, 98]⟩ : ByteArray) (⟨#[109, 111, 100]⟩ : ByteArray) = false := rfl
theorem q_1_5 : eqS (⟨#[115, 117, 98]⟩ : ByteArray) (⟨#[109, 105, 110]⟩ : ByteArray) = false := rfl
theorem q_1_6 : eqS (⟨#[115, 117, 98]⟩ : ByteArray) (⟨#[109, 97, 120]⟩ : ByteArray) = false := rfl
theorem q_1_7 : eqS (⟨#[115, 117, 98]⟩ : ByteArray) (⟨#[110, 101, 103]⟩ : ByteArray) = false := rfl
theorem q_1_8 : eqS (⟨#[115, 117, 98]⟩ : ByteArray) (⟨#[97, 98, 115]⟩ : ByteArray) = false := rfl
theorem q_1_9 : eqS (⟨#[115, 117, 98]⟩ : ByteArray) (⟨#[115, 105, 103, 110]⟩ : ByteArray) = false := rfl
theorem q_1_10 : eqS (⟨#[115, 117, 98]⟩ : ByteArray) (⟨#[108, 116]⟩ : ByteArray) = false := rfl
theorem q_1_11 : eqS (⟨#[115, 117, 98]⟩ : ByteArray) (⟨#[108, 101]⟩ : ByteArray) = false := rfl
theorem q_1_12 : eqS (⟨#[115, 117, 98]⟩ : ByteArray) (⟨#[103, 116]⟩ : ByteArray) = false := rfl
theorem q_1_13 : eqS (⟨#[115, 117, 98]⟩ : ByteArray) (⟨#[103, 101]⟩ : ByteArray) = false := rfl
theorem q_1_14 : eqS (⟨#[115, 117, 98]⟩ : ByteArray) (⟨#[101, 113]⟩ : ByteArray) = false := rfl
theorem q_1_15 : eqS (⟨#[115, 117, 98]⟩ : ByteArray) (⟨#[110, 101]⟩ : ByteArray) = false := rfl
theorem q_1_16 : eqS (⟨#[115, 117, 98]⟩ : ByteArray) (⟨#[97, 110, 100]⟩ : ByteArray) = false := rfl
theorem q_1_17 : eqS (⟨#[115, 117, 98]⟩ : ByteArray) (⟨#[111, 114]⟩ : ByteArray) = false := rfl
theorem q_1_18 : eqS (⟨#[115, 117, 98]⟩ : ByteArray) (⟨#[120, 111, 114]⟩ : ByteArray) = false := rfl
theorem q_1_19 : eqS (⟨#[115, 117, 98]⟩ : ByteArray) (⟨#[110, 111, 116]⟩ : ByteArray) = false := rfl
theorem q_1_20 : eqS (⟨#[115, 117, 98]⟩ : ByteArray) (⟨#[115, 101, 108, 101, 99, 116]⟩ : ByteArray) = false := rfl
theorem q_1_21 : eqS (⟨#[115, 117, 98]⟩ : ByteArray) (⟨#[116, 111, 105, 110, 116]⟩ : ByteArray) = false := rfl
theorem q_1_22 : eqS (⟨#[115, 117, 98]⟩ : ByteArray) (⟨#[105, 110, 116]⟩ : ByteArray) = false := rfl
theorem q_1_23 : eqS (⟨#[115, 117, 98]⟩ : ByteArray) (⟨#[98, 111, 111, 108]⟩ : ByteArray) = false := rfl
theorem q_1_24 : eqS (⟨#[115, 117, 98]⟩ : ByteArray) (⟨#[65]⟩ : ByteArray) = false := rfl
theorem q_1_25 : eqS (⟨#[115, 117, 98]⟩ : ByteArray) (⟨#[]⟩ : ByteArray) = false := rfl
theorem q_2_0 : eqS (⟨#[109, 117, 108]⟩ : ByteArray) (⟨#[97, 100, 100]⟩ : ByteArray) = false := rfl
theorem q_2_1 : eqS (⟨#[109, 117, 108]⟩ : ByteArray) (⟨#[115, 117, 98]⟩ : ByteArray) = false := rfl
theorem q_2_2 : eqS (⟨#[109, 117, 108]⟩ : ByteArray) (⟨#[109, 117, 108]⟩ : ByteArray) = true := rfl
theorem q_2_3 : eqS (⟨#[109, 117, 108]⟩ : ByteArray) (⟨#[100, 105, 118]⟩ : ByteArray) = false := rfl
theorem q_2_4 : eqS (⟨#[109, 117, 108]⟩ : ByteArray) (⟨#[109, 111, 100]⟩ : ByteArray) = false := rfl
theorem q_2_5 : eqS (⟨#[109, 117, 108]⟩ : ByteArray) (⟨#[109, 105, 110]⟩ : ByteArray) = false := rfl
theorem q_2_6 : eqS (⟨#[109, 117, 108]⟩ : ByteArray) (⟨#[109, 97, 120]⟩ : ByteArray) = false := rfl
theorem q_2_7 : eqS (⟨#[109, 117, 108]⟩ : ByteArray) (⟨#[110, 101, 103]⟩ : ByteArray) = false := rfl
theorem q_2_8 : eqS (⟨#[109, 117, 108]⟩ : ByteArray) (⟨#[97, 98, 115]⟩ : ByteArray) = false := rfl
theorem q_2_9 : eqS (⟨#[109, 117, 108]⟩ : ByteArray) (⟨#[115, 105, 103, 110]⟩ : ByteArray) = false := rfl
theorem q_2_10 : eqS (⟨#[109, 117, 108]⟩ : ByteArray) (⟨#[108, 116]⟩ : ByteArray) = false := rfl
theorem q_2_11 : eqS (⟨#[109, 117, 108]⟩ : ByteArray) (⟨#[108, 101]⟩ : ByteArray) = false := rfl
theorem q_2_12 : eqS (⟨#[109, 117, 108]⟩ : ByteArray) (⟨#[103, 116]⟩ : ByteArray) = false := rfl
theorem q_2_13 : eqS (⟨#[109, 117, 108]⟩ : ByteArray) (⟨#[103, 101]⟩ : ByteArray) = false := rfl
theorem q_2_14 : eqS (⟨#[109, 117, 108]⟩ : ByteArray) (⟨#[101, 113]⟩ : ByteArray) = false := rfl
theorem q_2_15 : eqS (⟨#[109, 117, 108]⟩ : ByteArray) (⟨#[110, 101]⟩ : ByteArray) = false := rfl
theorem q_2_16 : eqS (⟨#[109, 117, 108]⟩ : ByteArray) (⟨#[97, 110, 100]⟩ : ByteArray) = false := rfl
theorem q_2_17 : eqS (⟨#[109, 117, 108]⟩ : ByteArray) (⟨#[111, 114]⟩ : ByteArray) = false := rfl
theorem q_2_18 : eqS (⟨#[109, 117, 108]⟩ : ByteArray) (⟨#[120, 111, 114]⟩ : ByteArray) = false := rfl
theorem q_2_19 : eqS (⟨#[109, 117, 108]⟩ : ByteArray) (⟨#[110, 111, 116]⟩ : ByteArray) = false := rfl
theorem q_2_20 : eqS (⟨#[109, 117, 108]⟩ : ByteArray) (⟨#[115, 101, 108, 101, 99, 116]⟩ : ByteArray) = false := rfl
theorem q_2_21 : eqS (⟨#[109, 117, 108]⟩ : ByteArray) (⟨#[116, 111, 105, 110, 116]⟩ : ByteArray) = false := rfl
theorem q_2_22 : eqS (⟨#[109, 117, 108]⟩ : ByteArray) (⟨#[105, 110, 116]⟩ : ByteArray) = false := rfl
theorem q_2_23 : eqS (⟨#[109, 117, 108]⟩ : ByteArray) (⟨#[98, 111, 111, 108]⟩ : ByteArray) = false := rfl
theorem q_2_24 : eqS (⟨#[109, 117, 108]⟩ : ByteArray) (⟨#[65]⟩ : ByteArray) = false := rfl
theorem q_2_25 : eqS (⟨#[109, 117, 108]⟩ : ByteArray) (⟨#[]⟩ : ByteArray) = false := rfl
theorem q_3_0 : eqS (⟨#[100, 105, 118]⟩ : ByteArray) (⟨#[97, 100, 100]⟩ : ByteArray) = false := rfl
theorem q_3_1 : eqS (⟨#[100, 105, 118]⟩ : ByteArray) (⟨#[115, 117, 98]⟩ : ByteArray) = false := rfl
theorem q_3_2 : eqS (⟨#[100, 105, 118]⟩ : ByteArray) (⟨#[109, 117, 108]⟩ : ByteArray) = false := rfl
theorem q_3_3 : eqS (⟨#[100, 105, 118]⟩ : ByteArray) (⟨#[100, 105, 118]⟩ : ByteArray) = true := rfl
theorem q_3_4 : eqS (⟨#[100, 105, 118]⟩ : ByteArray) (⟨#[109, 111, 100]⟩ : ByteArray) = false := rfl
theorem q_3_5 : eqS (⟨#[100, 105, 118]⟩ : ByteArray) (⟨#[109, 105, 110]⟩ : ByteArray) = false := rfl
theorem q_3_6 : eqS (⟨#[100, 105, 118]⟩ : ByteArray) (⟨#[109, 97, 120]⟩ : ByteArray) = false := rfl
theorem q_3_7 : eqS (⟨#[100, 105, 118]⟩ : ByteArray) (⟨#[110, 101, 103]⟩ : ByteArray) = false := rfl
theorem q_3_8 : eqS (⟨#[100, 105, 118]⟩ : ByteArray) (⟨#[97, 98, 115]⟩ : ByteArray) = false := rfl
theorem q_3_9 : eqS (⟨#[100, 105, 118]⟩ : ByteArray) (⟨#[115, 105, 103, 110]⟩ : ByteArray) = false := rfl
theorem q_3_10 : eqS (⟨#[100, 105, 118]⟩ : ByteArray) (⟨#[108, 116]⟩ : ByteArray) = false := rfl
theorem q_3_11 : eqS (⟨#[100, 105, 118]⟩ : ByteArray) (⟨#[108, 101]⟩ : ByteArray) = false := rfl
theorem q_3_12 : eqS (⟨#[100, 105, 118]⟩ : ByteArray) (⟨#[103, 116]⟩ : ByteArray) = false := rfl
theorem q_3_13 : eqS (⟨#[100, 105, 118]⟩ : ByteArray) (⟨#[103, 101]⟩ : ByteArray) = false := rfl
theorem q_3_14 : eqS (⟨#[100, 105, 118]⟩ : ByteArray) (⟨#[101, 113]⟩ : ByteArray) = false := rfl
theorem q_3_15 : eqS (⟨#[100, 105, 118]⟩ : ByteArray) (⟨#[110, 101]⟩ : ByteArray) = false := rfl
theorem q_3_16 : eqS (⟨#[100, 105, 118]⟩ : ByteArray) (⟨#[97, 110, 100]⟩ : ByteArray) = false := rfl
theorem q_3_17 : eqS (⟨#[100, 105, 118]⟩ : ByteArray) (⟨#[111, 114]⟩ : ByteArray) = false := rfl
theorem q_3_18 : eqS (⟨#[100, 105, 118]⟩ : ByteArray) (⟨#[120, 111, 114]⟩ : ByteArray) = false := rfl
theorem q_3_19 : eqS (⟨#[100, 105, 118]⟩ : ByteArray) (⟨#[110, 111, 116]⟩ : ByteArray) = false := rfl
theorem q_3_20 : eqS (⟨#[100, 105, 118]⟩ : ByteArray) (⟨#[115, 101, 108, 101, 99, 116]⟩ : ByteArray) = false := rfl
theorem q_3_21 : eqS (⟨#[100, 105, 118]⟩ : ByteArray) (⟨#[116, 111, 105, 110, 116]⟩ : ByteArray) = false := rfl
theorem q_3_22 : eqS (⟨#[100, 105, 118]⟩ : ByteArray) (⟨#[105, 110, 116]⟩ : ByteArray) = false := rfl
theorem q_3_23 : eqS (⟨#[100, 105, 118]⟩ : ByteArray) (⟨#[98, 111, 111, 108]⟩ : ByteArray) = false := rfl
theorem q_3_24 : eqS (⟨#[100, 105, 118]⟩ : ByteArray) (⟨#[65]⟩ : ByteArray) = false := rfl
theorem q_3_25 : eqS (⟨#[100, 105, 118]⟩ : ByteArray) (⟨#[]⟩ : ByteArray) = false := rfl
theorem q_4_0 : eqS (⟨#[109, 111, 100]⟩ : ByteArray) (⟨#[97, 100, 100]⟩ : ByteArray) = false := rfl
theorem q_4_1 : eqS (⟨#[109, 111, 100]⟩ : ByteArray) (⟨#[115, 117, 98]⟩ : ByteArray) = false := rfl
theorem q_4_2 : eqS (⟨#[109, 111, 100]⟩ : ByteArray) (⟨#[109, 117, 108]⟩ : ByteArray) = false := rfl
theorem q_4_3 : eqS (⟨#[109, 111, 100]⟩ : ByteArray) (⟨#[100, 105, 118]⟩ : ByteArray) = false := rfl
theorem q_4_4 : eqS (⟨#[109, 111, 100]⟩ : ByteArray) (⟨#[109, 111, 100]⟩ : ByteArray) = true := rfl
theorem q_4_5 : eqS (⟨#[109, 111, 100]⟩ : ByteArray) (⟨#[109, 105, 110]⟩ : ByteArray) = false := rfl
theorem q_4_6 : eqS (⟨#[109, 111, 100]⟩ : ByteArray) (⟨#[109, 97, 120]⟩ : ByteArray) = false := rfl
theorem q_4_7 : eqS (⟨#[109, 111, 100]⟩ : ByteArray) (⟨#[110, 101, 103]⟩ : ByteArray) = false := rfl
theorem q_4_8 : eqS (⟨#[109, 111, 100]⟩ : ByteArray) (⟨#[97, 98, 115]⟩ : ByteArray) = false := rfl
theorem q_4_9 : eqS (⟨#[109, 111, 100]⟩ : ByteArray) (⟨#[115, 105, 103, 110]⟩ : ByteArray) = false := rfl
theorem q_4_10 : eqS (⟨#[109, 111, 100]⟩ : ByteArray) (⟨#[108, 116]⟩ : ByteArray) = false := rfl
theorem q_4_11 : eqS (⟨#[109, 111, 100]⟩ : ByteArray) (⟨#[108, 101]⟩ : ByteArray) = false := rfl
theorem q_4_12 : eqS (⟨#[109, 111, 100]⟩ : ByteArray) (⟨#[103, 116]⟩ : ByteArray) = false := rfl
theorem q_4_13 : eqS (⟨#[109, 111, 100]⟩ : ByteArray) (⟨#[103, 101]⟩ : ByteArray) = false := rfl
theorem q_4_14 : eqS (⟨#[109, 111, 100]⟩ : ByteArray) (⟨#[101, 113]⟩ : ByteArray) = false := rfl
theorem q_4_15 : eqS (⟨#[109, 111, 100]⟩ : ByteArray) (⟨#[110, 101]⟩ : ByteArray) = false := rfl
theorem q_4_16 : eqS (⟨#[109, 111, 100]⟩ : ByteArray) (⟨#[97, 110, 100]⟩ : ByteArray) = false := rfl
theorem q_4_17 : eqS (⟨#[109, 111, 100]⟩ : ByteArray) (⟨#[111, 114]⟩ : ByteArray) = false := rfl
theorem q_4_18 : eqS (⟨#[109, 111, 100]⟩ : ByteArray) (⟨#[120, 111, 114]⟩ : ByteArray) = false := rfl
theorem q_4_19 : eqS (⟨#[109, 111, 100]⟩ : ByteArray) (⟨#[110, 111, 116]⟩ : ByteArray) = false := rfl
theorem q_4_20 : eqS (⟨#[109, 111, 100]⟩ : ByteArray) (⟨#[115, 101, 108, 101, 99, 116]⟩ : ByteArray) = false := rfl
theorem q_4_21 : eqS (⟨#[109, 111, 100]⟩ : ByteArray) (⟨#[116, 111, 105, 110, 116]⟩ : ByteArray) = false := rfl
theorem q_4_22 : eqS (⟨#[109, 111, 100]⟩ : ByteArray) (⟨#[105, 110, 116]⟩ : ByteArray) = false := rfl
theorem q_4_23 : eqS (⟨#[109, 111, 100]⟩ : ByteArray) (⟨#[98, 111, 111, 108]⟩ : ByteArray) = false := rfl
theorem q_4_24 : eqS (⟨#[109, 111, 100]⟩ : ByteArray) (⟨#[65]⟩ : ByteArray) = false := rfl
theorem q_4_25 : eqS (⟨#[109, 111, 100]⟩ : ByteArray) (⟨#[]⟩ : ByteArray) = false := rfl
theorem q_5_0 : eqS (⟨#[109, 105, 110]⟩ : ByteArray) (⟨#[97, 100, 100]⟩ : ByteArray) = false := rfl
theorem q_5_1 : eqS (⟨#[109, 105, 110]⟩ : ByteArray) (⟨#[115, 117, 98]⟩ : ByteArray) = false := rfl
theorem q_5_2 : eqS (⟨#[109, 105, 110]⟩ : ByteArray) (⟨#[109, 117, 108]⟩ : ByteArray) = false := rfl
theorem q_5_3 : eqS (⟨#[109, 105, 110]⟩ : ByteArray) (⟨#[100, 105, 118]⟩ : ByteArray) = false := rfl
theorem q_5_4 : eqS (⟨#[109, 105, 110]⟩ : ByteArray) (⟨#[109, 111, 100]⟩ : ByteArray) = false := rfl
theorem q_5_5 : eqS (⟨#[109, 105, 110]⟩ : ByteArray) (⟨#[109, 105, 110]⟩ : ByteArray) = true := rfl
theorem q_5_6 : eqS (⟨#[109, 105, 110]⟩ : ByteArray) (⟨#[109, 97, 120]⟩ : ByteArray) = false := rfl
theorem q_5_7 : eqS (⟨#[109, 105, 110]⟩ : ByteArray) (⟨#[110, 101, 103]⟩ : ByteArray) = false := rfl
theorem q_5_8 : eqS (⟨#[109, 105, 110]⟩ : ByteArray) (⟨#[97, 98, 115]⟩ : ByteArray) = false := rfl
theorem q_5_9 : eqS (⟨#[109, 105, 110]⟩ : ByteArray) (⟨#[115, 105, 103, 110]⟩ : ByteArray) = false := rfl
theorem q_5_10 : eqS (⟨#[109, 105, 110]⟩ : ByteArray) (⟨#[108, 116]⟩ : ByteArray) = false := rfl
theorem q_5_11 : eqS (⟨#[109, 105, 110]⟩ : ByteArray) (⟨#[108, 101]⟩ : ByteArray) = false := rfl
theorem q_5_12 : eqS (⟨#[109, 105, 110]⟩ : ByteArray) (⟨#[103, 116]⟩ : ByteArray) = false := rfl
theorem q_5_13 : eqS (⟨#[109, 105, 110]⟩ : ByteArray) (⟨#[103, 101]⟩ : ByteArray) = false := rfl
theorem q_5_14 : eqS (⟨#[109, 105, 110]⟩ : ByteArray) (⟨#[101, 113]⟩ : ByteArray) = false := rfl
theorem q_5_15 : eqS (⟨#[109, 105, 110]⟩ : ByteArray) (⟨#[110, 101]⟩ : ByteArray) = false := rfl
theorem q_5_16 : eqS (⟨#[109, 105, 110]⟩ : ByteArray) (⟨#[97, 110, 100]⟩ : ByteArray) = false := rfl
theorem q_5_17 : eqS (⟨#[109, 105, 110]⟩ : ByteArray) (⟨#[111, 114]⟩ : ByteArray) = false := rfl
theorem q_5_18 : eqS (⟨#[109, 105, 110]⟩ : ByteArray) (⟨#[120, 111, 114]⟩ : ByteArray) = false := rfl
theorem q_5_19 : eqS (⟨#[109, 105, 110]⟩ : ByteArray) (⟨#[110, 111, 116]⟩ : ByteArray) = false := rfl
theorem q_5_20 : eqS (⟨#[109, 105, 110]⟩ : ByteArray) (⟨#[115, 101, 108, 101, 99, 116]⟩ : ByteArray) = false := rfl
theorem q_5_21 : eqS (⟨#[109, 105, 110]⟩ : ByteArray) (⟨#[116, 111, 105, 110, 116]⟩ : ByteArray) = false := rfl
theorem q_5_22 : eqS (⟨#[109, 105, 110]⟩ : ByteArray) (⟨#[105, 110, 116]⟩ : ByteArray) = false := rfl
theorem q_5_23 : eqS (⟨#[109, 105, 110]⟩ : ByteArray) (⟨#[98, 111, 111, 108]⟩ : ByteArray) = false := rfl
theorem q_5_24 : eqS (⟨#[109, 105, 110]⟩ : ByteArray) (⟨#[65]⟩ : ByteArray) = false := rfl
theorem q_5_25 : eqS (⟨#[109, 105, 110]⟩ : ByteArray) (⟨#[]⟩ : ByteArray) = false := rfl
theorem q_6_0 : eqS (⟨#[109, 97, 120]⟩ : ByteArray) (⟨#[97, 100, 100]⟩ : ByteArray) = false := rfl
theorem q_6_1 : eqS (⟨#[109, 97, 120]⟩ : ByteArray) (⟨#[115, 117, 98]⟩ : ByteArray) = false := rfl
theorem q_6_2 : eqS (⟨#[109, 97, 120]⟩ : ByteArray) (⟨#[109, 117, 108]⟩ : ByteArray) = false := rfl
theorem q_6_3 : eqS (⟨#[109, 97, 120]⟩ : ByteArray) (⟨#[100, 105, 118]⟩ : ByteArray) = false := rfl
theorem q_6_4 : eqS (⟨#[109, 97, 120]⟩ : ByteArray) (⟨#[109, 111, 100]⟩ : ByteArray) = false := rfl
theorem q_6_5 : eqS (⟨#[109, 97, 120]⟩ : ByteArray) (⟨#[109, 105, 110]⟩ : ByteArray) = false := rfl
theorem q_6_6 : eqS (⟨#[109, 97, 120]⟩ : ByteArray) (⟨#[109, 97, 120]⟩ : ByteArray) = true := rfl
theorem q_6_7 : eqS (⟨#[109, 97, 120]⟩ : ByteArray) (⟨#[110, 101, 103]⟩ : ByteArray) = false := rfl
theorem q_6_8 : eqS (⟨#[109, 97, 120]⟩ : ByteArray) (⟨#[97, 98, 115]⟩ : ByteArray) = false := rfl
theorem q_6_9 : eqS (⟨#[109, 97, 120]⟩ : ByteArray) (⟨#[115, 105, 103, 110]⟩ : ByteArray) = false := rfl
theorem q_6_10 : eqS (⟨#[109, 97, 120]⟩ : ByteArray) (⟨#[108, 116]⟩ : ByteArray) = false := rfl
theorem q_6_11 : eqS (⟨#[109, 97, 120]⟩ : ByteArray) (⟨#[108, 101]⟩ : ByteArray) = false := rfl
theorem q_6_12 : eqS (⟨#[109, 97, 120]⟩ : ByteArray) (⟨#[103, 116]⟩ : ByteArray) = false := rfl
theorem q_6_13 : eqS (⟨#[109, 97, 120]⟩ : ByteArray) (⟨#[103, 101]⟩ : ByteArray) = false := rfl
theorem q_6_14 : eqS (⟨#[109, 97, 120]⟩ : ByteArray) (⟨#[101, 113]⟩ : ByteArray) = false := rfl
theorem q_6_15 : eqS (⟨#[109, 97, 120]⟩ : ByteArray) (⟨#[110, 101]⟩ : ByteArray) = false := rfl
theorem q_6_16 : eqS (⟨#[109, 97, 120]⟩ : ByteArray) (⟨#[97, 110, 100]⟩ : ByteArray) = false := rfl
theorem q_6_17 : eqS (⟨#[109, 97, 120]⟩ : ByteArray) (⟨#[111, 114]⟩ : ByteArray) = false := rfl
theorem q_6_18 : eqS (⟨#[109, 97, 120]⟩ : ByteArray) (⟨#[120, 111, 114]⟩ : ByteArray) = false := rfl
theorem q_6_19 : eqS (⟨#[109, 97, 120]⟩ : ByteArray) (⟨#[110, 111, 116]⟩ : ByteArray) = false := rfl
theorem q_6_20 : eqS (⟨#[109, 97, 120]⟩ : ByteArray) (⟨#[115, 101, 108, 101, 99, 116]⟩ : ByteArray) = false := rfl
theorem q_6_21 : eqS (⟨#[109, 97, 120]⟩ : ByteArray) (⟨#[116, 111, 105, 110, 116]⟩ : ByteArray) = false := rfl
theorem q_6_22 : eqS (⟨#[109, 97, 120]⟩ : ByteArray) (⟨#[105, 110, 116]⟩ : ByteArray) = false := rfl
theorem q_6_23 : eqS (⟨#[109, 97, 120]⟩ : ByteArray) (⟨#[98, 111, 111, 108]⟩ : ByteArray) = false := rfl
theorem q_6_24 : eqS (⟨#[109, 97, 120]⟩ : ByteArray) (⟨#[65]⟩ : ByteArray) = false := rfl
theorem q_6_25 : eqS (⟨#[109, 97, 120]⟩ : ByteArray) (⟨#[]⟩ : ByteArray) = false := rfl
theorem q_7_0 : eqS (⟨#[110, 101, 103]⟩ : ByteArray) (⟨#[97, 100, 100]⟩ : ByteArray) = false := rfl
theorem q_7_1 : eqS (⟨#[110, 101, 103]⟩ : ByteArray) (⟨#[115, 117, 98]⟩ : ByteArray) = false := rfl
theorem q_7_2 : eqS (⟨#[110, 101, 103]⟩ : ByteArray) (⟨#[109, 117, 108]⟩ : ByteArray) = false := rfl
theorem q_7_3 : eqS (⟨#[110, 101, 103]⟩ : ByteArray) (⟨#[100, 105, 118]⟩ : ByteArray) = false := rfl
theorem q_7_4 : eqS (⟨#[110, 101, 103]⟩ : ByteArray) (⟨#[109, 111, 100]⟩ : ByteArray) = false := rfl
theorem q_7_5 : eqS (⟨#[110, 101, 103]⟩ : ByteArray) (⟨#[109, 105, 110]⟩ : ByteArray) = false := rfl
theorem q_7_6 : eqS (⟨#[110, 101, 103]⟩ : ByteArray) (⟨#[109, 97, 120]⟩ : ByteArray) = false := rfl
theorem q_7_7 : eqS (⟨#[110, 101, 103]⟩ : ByteArray) (⟨#[110, 101, 103]⟩ : ByteArray) = true := rfl
theorem q_7_8 : eqS (⟨#[110, 101, 103]⟩ : ByteArray) (⟨#[97, 98, 115]⟩ : ByteArray) = false := rfl
theorem q_7_9 : eqS (⟨#[110, 101, 103]⟩ : ByteArray) (⟨#[115, 105, 103, 110]⟩ : ByteArray) = false := rfl
theorem q_7_10 : eqS (⟨#[110, 101, 103]⟩ : ByteArray) (⟨#[108, 116]⟩ : ByteArray) = false := rfl
theorem q_7_11 : eqS (⟨#[110, 101, 103]⟩ : ByteArray) (⟨#[108, 101]⟩ : ByteArray) = false := rfl
theorem q_7_12 : eqS (⟨#[110, 101, 103]⟩ : ByteArray) (⟨#[103, 116]⟩ : ByteArray) = false := rfl
theorem q_7_13 : eqS (⟨#[110, 101, 103]⟩ : ByteArray) (⟨#[103, 101]⟩ : ByteArray) = false := rfl
theorem q_7_14 : eqS (⟨#[110, 101, 103]⟩ : ByteArray) (⟨#[101, 113]⟩ : ByteArray) = false := rfl
theorem q_7_15 : eqS (⟨#[110, 101, 103]⟩ : ByteArray) (⟨#[110, 101]⟩ : ByteArray) = false := rfl
theorem q_7_16 : eqS (⟨#[110, 101, 103]⟩ : ByteArray) (⟨#[97, 110, 100]⟩ : ByteArray) = false := rfl
theorem q_7_17 : eqS (⟨#[110, 101, 103]⟩ : ByteArray) (⟨#[111, 114]⟩ : ByteArray) = false := rfl
theorem q_7_18 : eqS (⟨#[110, 101, 103]⟩ : ByteArray) (⟨#[120, 111, 114]⟩ : ByteArray) = false := rfl
theorem q_7_19 : eqS (⟨#[110, 101, 103]⟩ : ByteArray) (⟨#[110, 111, 116]⟩ : ByteArray) = false := rfl
theorem q_7_20 : eqS (⟨#[110, 101, 103]⟩ : ByteArray) (⟨#[115, 101, 108, 101, 99, 116]⟩ : ByteArray) = false := rfl
theorem q_7_21 : eqS (⟨#[110, 101, 103]⟩ : ByteArray) (⟨#[116, 111, 105, 110, 116]⟩ : ByteArray) = false := rfl
theorem q_7_22 : eqS (⟨#[110, 101, 103]⟩ : ByteArray) (⟨#[105, 110, 116]⟩ : ByteArray) = false := rfl
theorem q_7_23 : eqS (⟨#[110, 101, 103]⟩ : ByteArray) (⟨#[98, 111, 111, 108]⟩ : ByteArray) = false := rfl
theorem q_7_24 : eqS (⟨#[110, 101, 103]⟩ : ByteArray) (⟨#[65]⟩ : ByteArray) = false := rfl
theorem q_7_25 : eqS (⟨#[110, 101, 103]⟩ : ByteArray) (⟨#[]⟩ : ByteArray) = false := rfl
theorem q_8_0 : eqS (⟨#[97, 98, 115]⟩ : ByteArray) (⟨#[97, 100, 100]⟩ : ByteArray) = false := rfl
theorem q_8_1 : eqS (⟨#[97, 98, 115]⟩ : ByteArray) (⟨#[115, 117, 98]⟩ : ByteArray) = false := rfl
theorem q_8_2 : eqS (⟨#[97, 98, 115]⟩ : ByteArray) (⟨#[109, 117, 108]⟩ : ByteArray) = false := rfl
theorem q_8_3 : eqS (⟨#[97, 98, 115]⟩ : ByteArray) (⟨#[100, 105, 118]⟩ : ByteArray) = false := rfl
theorem q_8_4 : eqS (⟨#[97, 98, 115]⟩ : ByteArray) (⟨#[109, 111, 100]⟩ : ByteArray) = false := rfl
theorem q_8_5 : eqS (⟨#[97, 98, 115]⟩ : ByteArray) (⟨#[109, 105, 110]⟩ : ByteArray) = false := rfl
theorem q_8_6 : eqS (⟨#[97, 98, 115]⟩ : ByteArray) (⟨#[109, 97, 120]⟩ : ByteArray) = false := rfl
theorem q_8_7 : eqS (⟨#[97, 98, 115]⟩ : ByteArray) (⟨#[110, 101, 103]⟩ : ByteArray) = false := rfl
theorem q_8_8 : eqS (⟨#[97, 98, 115]⟩ : ByteArray) (⟨#[97, 98, 115]⟩ : ByteArray) = true := rfl
theorem q_8_9 : eqS (⟨#[97, 98, 115]⟩ : ByteArray) (⟨#[115, 105, 103, 110]⟩ : ByteArray) = false := rfl
theorem q_8_10 : eqS (⟨#[97, 98, 115]⟩ : ByteArray) (⟨#[108, 116]⟩ : ByteArray) = false := rfl
theorem q_8_11 : eqS (⟨#[97, 98, 115]⟩ : ByteArray) (⟨#[108, 101]⟩ : ByteArray) = false := rfl
theorem q_8_12 : eqS (⟨#[97, 98, 115]⟩ : ByteArray) (⟨#[103, 116]⟩ : ByteArray) = false := rfl
theorem q_8_13 : eqS (⟨#[97, 98, 115]⟩ : ByteArray) (⟨#[103, 101]⟩ : ByteArray) = false := rfl
theorem q_8_14 : eqS (⟨#[97, 98, 115]⟩ : ByteArray) (⟨#[101, 113]⟩ : ByteArray) = false := rfl
theorem q_8_15 : eqS (⟨#[97, 98, 115]⟩ : ByteArray) (⟨#[110, 101]⟩ : ByteArray) = false := rfl
theorem q_8_16 : eqS (⟨#[97, 98, 115]⟩ : ByteArray) (⟨#[97, 110, 100]⟩ : ByteArray) = false := rfl
theorem q_8_17 : eqS (⟨#[97, 98, 115]⟩ : ByteArray) (⟨#[111, 114]⟩ : ByteArray) = false := rfl
theorem q_8_18 : eqS (⟨#[97, 98, 115]⟩ : ByteArray) (⟨#[120, 111, 114]⟩ : ByteArray) = false := rfl
theorem q_8_19 : eqS (⟨#[97, 98, 115]⟩ : ByteArray) (⟨#[110, 111, 116]⟩ : ByteArray) = false := rfl
theorem q_8_20 : eqS (⟨#[97, 98, 115]⟩ : ByteArray) (⟨#[115, 101, 108, 101, 99, 116]⟩ : ByteArray) = false := rfl
theorem q_8_21 : eqS (⟨#[97, 98, 115]⟩ : ByteArray) (⟨#[116, 111, 105, 110, 116]⟩ : ByteArray) = false := rfl
theorem q_8_22 : eqS (⟨#[97, 98, 115]⟩ : ByteArray) (⟨#[105, 110, 116]⟩ : ByteArray) = false := rfl
theorem q_8_23 : eqS (⟨#[97, 98, 115]⟩ : ByteArray) (⟨#[98, 111, 111, 108]⟩ : ByteArray) = false := rfl
theorem q_8_24 : eqS (⟨#[97, 98, 115]⟩ : ByteArray) (⟨#[65]⟩ : ByteArray) = false := rfl
theorem q_8_25 : eqS (⟨#[97, 98, 115]⟩ : ByteArray) (⟨#[]⟩ : ByteArray) = false := rfl
theorem q_9_0 : eqS (⟨#[115, 105, 103, 110]⟩ : ByteArray) (⟨#[97, 100, 100]⟩ : ByteArray) = false := rfl
theorem q_9_1 : eqS (⟨#[115, 105, 103, 110]⟩ : ByteArray) (⟨#[115, 117, 98]⟩ : ByteArray) = false := rfl
theorem q_9_2 : eqS (⟨#[115, 105, 103, 110]⟩ : ByteArray) (⟨#[109, 117, 108]⟩ : ByteArray) = false := rfl
theorem q_9_3 : eqS (⟨#[115, 105, 103, 110]⟩ : ByteArray) (⟨#[100, 105, 118]⟩ : ByteArray) = false := rfl
theorem q_9_4 : eqS (⟨#[115, 105, 103, 110]⟩ : ByteArray) (⟨#[109, 111, 100]⟩ : ByteArray) = false := rfl
theorem q_9_5 : eqS (⟨#[115, 105, 103, 110]⟩ : ByteArray) (⟨#[109, 105, 110]⟩ : ByteArray) = false := rfl
theorem q_9_6 : eqS (⟨#[115, 105, 103, 110]⟩ : ByteArray) (⟨#[109, 97, 120]⟩ : ByteArray) = false := rfl
theorem q_9_7 : eqS (⟨#[115, 105, 103, 110]⟩ : ByteArray) (⟨#[110, 101, 103]⟩ : ByteArray) = false := rfl
theorem q_9_8 : eqS (⟨#[115, 105, 103, 110]⟩ : ByteArray) (⟨#[97, 98, 115]⟩ : ByteArray) = false := rfl
theorem q_9_9 : eqS (⟨#[115, 105, 103, 110]⟩ : ByteArray) (⟨#[115, 105, 103, 110]⟩ : ByteArray) = true := rfl
theorem q_9_10 : eqS (⟨#[115, 105, 103, 110]⟩ : ByteArray) (⟨#[108, 116]⟩ : ByteArray) = false := rfl
theorem q_9_11 : eqS (⟨#[115, 105, 103, 110]⟩ : ByteArray) (⟨#[108, 101]⟩ : ByteArray) = false := rfl
theorem q_9_12 : eqS (⟨#[115, 105, 103, 110]⟩ : ByteArray) (⟨#[103, 116]⟩ : ByteArray) = false := rfl
theorem q_9_13 : eqS (⟨#[115, 105, 103, 110]⟩ : ByteArray) (⟨#[103, 101]⟩ : ByteArray) = false := rfl
theorem q_9_14 : eqS (⟨#[115, 105, 103, 110]⟩ : ByteArray) (⟨#[101, 113]⟩ : ByteArray) = false := rfl
theorem q_9_15 : eqS (⟨#[115, 105, 103, 110]⟩ : ByteArray) (⟨#[110, 101]⟩ : ByteArray) = false := rfl
theorem q_9_16 : eqS (⟨#[115, 105, 103, 110]⟩ : ByteArray) (⟨#[97, 110, 100]⟩ : ByteArray) = false := rfl
theorem q_9_17 : eqS (⟨#[115, 105, 103, 110]⟩ : ByteArray) (⟨#[111, 114]⟩ : ByteArray) = false := rfl
theorem q_9_18 : eqS (⟨#[115, 105, 103, 110]⟩ : ByteArray) (⟨#[120, 111, 114]⟩ : ByteArray) = false := rfl
theorem q_9_19 : eqS (⟨#[115, 105, 103, 110]⟩ : ByteArray) (⟨#[110, 111, 116]⟩ : ByteArray) = false := rfl
theorem q_9_20 : eqS (⟨#[115, 105, 103, 110]⟩ : ByteArray) (⟨#[115, 101, 108, 101, 99, 116]⟩ : ByteArray) = false := rfl
theorem q_9_21 : eqS (⟨#[115, 105, 103, 110]⟩ : ByteArray) (⟨#[116, 111, 105, 110, 116]⟩ : ByteArray) = false := rfl
theorem q_9_22 : eqS (⟨#[115, 105, 103, 110]⟩ : ByteArray) (⟨#[105, 110, 116]⟩ : ByteArray) = false := rfl
theorem q_9_23 : eqS (⟨#[115, 105, 103, 110]⟩ : ByteArray) (⟨#[98, 111, 111, 108]⟩ : ByteArray) = false := rfl
theorem q_9_24 : eqS (⟨#[115, 105, 103, 110]⟩ : ByteArray) (⟨#[65]⟩ : ByteArray) = false := rfl
theorem q_9_25 : eqS (⟨#[115, 105, 103, 110]⟩ : ByteArray) (⟨#[]⟩ : ByteArray) = false := rfl
theorem q_10_0 : eqS (⟨#[108, 116]⟩ : ByteArray) (⟨#[97, 100, 100]⟩ : ByteArray) = false := rfl
theorem q_10_1 : eqS (⟨#[108, 116]⟩ : ByteArray) (⟨#[115, 117, 98]⟩ : ByteArray) = false := rfl
theorem q_10_2 : eqS (⟨#[108, 116]⟩ : ByteArray) (⟨#[109, 117, 108]⟩ : ByteArray) = false := rfl
theorem q_10_3 : eqS (⟨#[108, 116]⟩ : ByteArray) (⟨#[100, 105, 118]⟩ : ByteArray) = false := rfl
theorem q_10_4 : eqS (⟨#[108, 116]⟩ : ByteArray) (⟨#[109, 111, 100]⟩ : ByteArray) = false := rfl
theorem q_10_5 : eqS (⟨#[108, 116]⟩ : ByteArray) (⟨#[109, 105, 110]⟩ : ByteArray) = false := rfl
theorem q_10_6 : eqS (⟨#[108, 116]⟩ : ByteArray) (⟨#[109, 97, 120]⟩ : ByteArray) = false := rfl
theorem q_10_7 : eqS (⟨#[108, 116]⟩ : ByteArray) (⟨#[110, 101, 103]⟩ : ByteArray) = false := rfl
theorem q_10_8 : eqS (⟨#[108, 116]⟩ : ByteArray) (⟨#[97, 98, 115]⟩ : ByteArray) = false := rfl
theorem q_10_9 : eqS (⟨#[108, 116]⟩ : ByteArray) (⟨#[115, 105, 103, 110]⟩ : ByteArray) = false := rfl
theorem q_10_10 : eqS (⟨#[108, 116]⟩ : ByteArray) (⟨#[108, 116]⟩ : ByteArray) = true := rfl
theorem q_10_11 : eqS (⟨#[108, 116]⟩ : ByteArray) (⟨#[108, 101]⟩ : ByteArray) = false := rfl
theorem q_10_12 : eqS (⟨#[108, 116]⟩ : ByteArray) (⟨#[103, 116]⟩ : ByteArray) = false := rfl
theorem q_10_13 : eqS (⟨#[108, 116]⟩ : ByteArray) (⟨#[103, 101]⟩ : ByteArray) = false := rfl
theorem q_10_14 : eqS (⟨#[108, 116]⟩ : ByteArray) (⟨#[101, 113]⟩ : ByteArray) = false := rfl
theorem q_10_15 : eqS (⟨#[108, 116]⟩ : ByteArray) (⟨#[110, 101]⟩ : ByteArray) = false := rfl
theorem q_10_16 : eqS (⟨#[108, 116]⟩ : ByteArray) (⟨#[97, 110, 100]⟩ : ByteArray) = false := rfl
theorem q_10_17 : eqS (⟨#[108, 116]⟩ : ByteArray) (⟨#[111, 114]⟩ : ByteArray) = false := rfl
theorem q_10_18 : eqS (⟨#[108, 116]⟩ : ByteArray) (⟨#[120, 111, 114]⟩ : ByteArray) = false := rfl
theorem q_10_19 : eqS (⟨#[108, 116]⟩ : ByteArray) (⟨#[110, 111, 116]⟩ : ByteArray) = false := rfl
theorem q_10_20 : eqS (⟨#[108, 116]⟩ : ByteArray) (⟨#[115, 101, 108, 101, 99, 116]⟩ : ByteArray) = false := rfl
theorem q_10_21 : eqS (⟨#[108, 116]⟩ : ByteArray) (⟨#[116, 111, 105, 110, 116]⟩ : ByteArray) = false := rfl
theorem q_10_22 : eqS (⟨#[108, 116]⟩ : ByteArray) (⟨#[105, 110, 116]⟩ : ByteArray) = false := rfl
theorem q_10_23 : eqS (⟨#[108, 116]⟩ : ByteArray) (⟨#[98, 111, 111, 108]⟩ : ByteArray) = false := rfl
theorem q_10_24 : eqS (⟨#[108, 116]⟩ : ByteArray) (⟨#[65]⟩ : ByteArray) = false := rfl
theorem q_10_25 : eqS (⟨#[108, 116]⟩ : ByteArray) (⟨#[]⟩ : ByteArray) = false := rfl
theorem q_11_0 : eqS (⟨#[108, 101]⟩ : ByteArray) (⟨#[97, 100, 100]⟩ : ByteArray) = false := rfl
theorem q_11_1 : eqS (⟨#[108, 101]⟩ : ByteArray) (⟨#[115, 117, 98]⟩ : ByteArray) = false := rfl
theorem q_11_2 : eqS (⟨#[108, 101]⟩ : ByteArray) (⟨#[109, 117, 108]⟩ : ByteArray) = false := rfl
theorem q_11_3 : eqS (⟨#[108, 101]⟩ : ByteArray) (⟨#[100, 105, 118]⟩ : ByteArray) = false := rfl
theorem q_11_4 : eqS (⟨#[108, 101]⟩ : ByteArray) (⟨#[109, 111, 100]⟩ : ByteArray) = false := rfl
theorem q_11_5 : eqS (⟨#[108, 101]⟩ : ByteArray) (⟨#[109, 105, 110]⟩ : ByteArray) = false := rfl
theorem q_11_6 : eqS (⟨#[108, 101]⟩ : ByteArray) (⟨#[109, 97, 120]⟩ : ByteArray) = false := rfl
theorem q_11_7 : eqS (⟨#[108, 101]⟩ : ByteArray) (⟨#[110, 101, 103]⟩ : ByteArray) = false := rfl
theorem q_11_8 : eqS (⟨#[108, 101]⟩ : ByteArray) (⟨#[97, 98, 115]⟩ : ByteArray) = false := rfl
theorem q_11_9 : eqS (⟨#[108, 101]⟩ : ByteArray) (⟨#[115, 105, 103, 110]⟩ : ByteArray) = false := rfl
theorem q_11_10 : eqS (⟨#[108, 101]⟩ : ByteArray) (⟨#[108, 116]⟩ : ByteArray) = false := rfl
theorem q_11_11 : eqS (⟨#[108, 101]⟩ : ByteArray) (⟨#[108, 101]⟩ : ByteArray) = true := rfl
theorem q_11_12 : eqS (⟨#[108, 101]⟩ : ByteArray) (⟨#[103, 116]⟩ : ByteArray) = false := rfl
theorem q_11_13 : eqS (⟨#[108, 101]⟩ : ByteArray) (⟨#[103, 101]⟩ : ByteArray) = false := rfl
theorem q_11_14 : eqS (⟨#[108, 101]⟩ : ByteArray) (⟨#[101, 113]⟩ : ByteArray) = false := rfl
theorem q_11_15 : eqS (⟨#[108, 101]⟩ : ByteArray) (⟨#[110, 101]⟩ : ByteArray) = false := rfl
theorem q_11_16 : eqS (⟨#[108, 101]⟩ : ByteArray) (⟨#[97, 110, 100]⟩ : ByteArray) = false := rfl
theorem q_11_17 : eqS (⟨#[108, 101]⟩ : ByteArray) (⟨#[111, 114]⟩ : ByteArray) = false := rfl
theorem q_11_18 : eqS (⟨#[108, 101]⟩ : ByteArray) (⟨#[120, 111, 114]⟩ : ByteArray) = false := rfl
theorem q_11_19 : eqS (⟨#[108, 101]⟩ : ByteArray) (⟨#[110, 111, 116]⟩ : ByteArray) = false := rfl
theorem q_11_20 : eqS (⟨#[108, 101]⟩ : ByteArray) (⟨#[115, 101, 108, 101, 99, 116]⟩ : ByteArray) = false := rfl
theorem q_11_21 : eqS (⟨#[108, 101]⟩ : ByteArray) (⟨#[116, 111, 105, 110, 116]⟩ : ByteArray) = false := rfl
theorem q_11_22 : eqS (⟨#[108, 101]⟩ : ByteArray) (⟨#[105, 110, 116]⟩ : ByteArray) = false := rfl
theorem q_11_23 : eqS (⟨#[108, 101]⟩ : ByteArray) (⟨#[98, 111, 111, 108]⟩ : ByteArray) = false := rfl
theorem q_11_24 : eqS (⟨#[108, 101]⟩ : ByteArray) (⟨#[65]⟩ : ByteArray) = false := rfl
theorem q_11_25 : eqS (⟨#[108, 101]⟩ : ByteArray) (⟨#[]⟩ : ByteArray) = false := rfl
theorem q_12_0 : eqS (⟨#[103, 116]⟩ : ByteArray) (⟨#[97, 100, 100]⟩ : ByteArray) = false := rfl
theorem q_12_1 : eqS (⟨#[103, 116]⟩ : ByteArray) (⟨#[115, 117, 98]⟩ : ByteArray) = false := rfl
theorem q_12_2 : eqS (⟨#[103, 116]⟩ : ByteArray) (⟨#[109, 117, 108]⟩ : ByteArray) = false := rfl
theorem q_12_3 : eqS (⟨#[103, 116]⟩ : ByteArray) (⟨#[100, 105, 118]⟩ : ByteArray) = false := rfl
theorem q_12_4 : eqS (⟨#[103, 116]⟩ : ByteArray) (⟨#[109, 111, 100]⟩ : ByteArray) = false := rfl
theorem q_12_5 : eqS (⟨#[103, 116]⟩ : ByteArray) (⟨#[109, 105, 110]⟩ : ByteArray) = false := rfl
theorem q_12_6 : eqS (⟨#[103, 116]⟩ : ByteArray) (⟨#[109, 97, 120]⟩ : ByteArray) = false := rfl
theorem q_12_7 : eqS (⟨#[103, 116]⟩ : ByteArray) (⟨#[110, 101, 103]⟩ : ByteArray) = false := rfl
theorem q_12_8 : eqS (⟨#[103, 116]⟩ : ByteArray) (⟨#[97, 98, 115]⟩ : ByteArray) = false := rfl
theorem q_12_9 : eqS (⟨#[103, 116]⟩ : ByteArray) (⟨#[115, 105, 103, 110]⟩ : ByteArray) = false := rfl
theorem q_12_10 : eqS (⟨#[103, 116]⟩ : ByteArray) (⟨#[108, 116]⟩ : ByteArray) = false := rfl
theorem q_12_11 : eqS (⟨#[103, 116]⟩ : ByteArray) (⟨#[108, 101]⟩ : ByteArray) = false := rfl
theorem q_12_12 : eqS (⟨#[103, 116]⟩ : ByteArray) (⟨#[103, 116]⟩ : ByteArray) = true := rfl
theorem q_12_13 : eqS (⟨#[103, 116]⟩ : ByteArray) (⟨#[103, 101]⟩ : ByteArray) = false := rfl
theorem q_12_14 : eqS (⟨#[103, 116]⟩ : ByteArray) (⟨#[101, 113]⟩ : ByteArray) = false := rfl
theorem q_12_15 : eqS (⟨#[103, 116]⟩ : ByteArray) (⟨#[110, 101]⟩ : ByteArray) = false := rfl
theorem q_12_16 : eqS (⟨#[103, 116]⟩ : ByteArray) (⟨#[97, 110, 100]⟩ : ByteArray) = false := rfl
theorem q_12_17 : eqS (⟨#[103, 116]⟩ : ByteArray) (⟨#[111, 114]⟩ : ByteArray) = false := rfl
theorem q_12_18 : eqS (⟨#[103, 116]⟩ : ByteArray) (⟨#[120, 111, 114]⟩ : ByteArray) = false := rfl
theorem q_12_19 : eqS (⟨#[103, 116]⟩ : ByteArray) (⟨#[110, 111, 116]⟩ : ByteArray) = false := rfl
theorem q_12_20 : eqS (⟨#[103, 116]⟩ : ByteArray) (⟨#[115, 101, 108, 101, 99, 116]⟩ : ByteArray) = false := rfl
theorem q_12_21 : eqS (⟨#[103, 116]⟩ : ByteArray) (⟨#[116, 111, 105, 110, 116]⟩ : ByteArray) = false := rfl
theorem q_12_22 : eqS (⟨#[103, 116]⟩ : ByteArray) (⟨#[105, 110, 116]⟩ : ByteArray) = false := rfl
theorem q_12_23 : eqS (⟨#[103, 116]⟩ : ByteArray) (⟨#[98, 111, 111, 108]⟩ : ByteArray) = false := rfl
theorem q_12_24 : eqS (⟨#[103, 116]⟩ : ByteArray) (⟨#[65]⟩ : ByteArray) = false := rfl
theorem q_12_25 : eqS (⟨#[103, 116]⟩ : ByteArray) (⟨#[]⟩ : ByteArray) = false := rfl
theorem q_13_0 : eqS (⟨#[103, 101]⟩ : ByteArray) (⟨#[97, 100, 100]⟩ : ByteArray) = false := rfl
theorem q_13_1 : eqS (⟨#[103, 101]⟩ : ByteArray) (⟨#[115, 117, 98]⟩ : ByteArray) = false := rfl
theorem q_13_2 : eqS (⟨#[103, 101]⟩ : ByteArray) (⟨#[109, 117, 108]⟩ : ByteArray) = false := rfl
theorem q_13_3 : eqS (⟨#[103, 101]⟩ : ByteArray) (⟨#[100, 105, 118]⟩ : ByteArray) = false := rfl
theorem q_13_4 : eqS (⟨#[103, 101]⟩ : ByteArray) (⟨#[109, 111, 100]⟩ : ByteArray) = false := rfl
theorem q_13_5 : eqS (⟨#[103, 101]⟩ : ByteArray) (⟨#[109, 105, 110]⟩ : ByteArray) = false := rfl
theorem q_13_6 : eqS (⟨#[103, 101]⟩ : ByteArray) (⟨#[109, 97, 120]⟩ : ByteArray) = false := rfl
theorem q_13_7 : eqS (⟨#[103, 101]⟩ : ByteArray) (⟨#[110, 101, 103]⟩ : ByteArray) = false := rfl
theorem q_13_8 : eqS (⟨#[103, 101]⟩ : ByteArray) (⟨#[97, 98, 115]⟩ : ByteArray) = false := rfl
theorem q_13_9 : eqS (⟨#[103, 101]⟩ : ByteArray) (⟨#[115, 105, 103, 110]⟩ : ByteArray) = false := rfl
theorem q_13_10 : eqS (⟨#[103, 101]⟩ : ByteArray) (⟨#[108, 116]⟩ : ByteArray) = false := rfl
theorem q_13_11 : eqS (⟨#[103, 101]⟩ : ByteArray) (⟨#[108, 101]⟩ : ByteArray) = false := rfl
theorem q_13_12 : eqS (⟨#[103, 101]⟩ : ByteArray) (⟨#[103, 116]⟩ : ByteArray) = false := rfl
theorem q_13_13 : eqS (⟨#[103, 101]⟩ : ByteArray) (⟨#[103, 101]⟩ : ByteArray) = true := rfl
theorem q_13_14 : eqS (⟨#[103, 101]⟩ : ByteArray) (⟨#[101, 113]⟩ : ByteArray) = false := rfl
theorem q_13_15 : eqS (⟨#[103, 101]⟩ : ByteArray) (⟨#[110, 101]⟩ : ByteArray) = false := rfl
theorem q_13_16 : eqS (⟨#[103, 101]⟩ : ByteArray) (⟨#[97, 110, 100]⟩ : ByteArray) = false := rfl
theorem q_13_17 : eqS (⟨#[103, 101]⟩ : ByteArray) (⟨#[111, 114]⟩ : ByteArray) = false := rfl
theorem q_13_18 : eqS (⟨#[103, 101]⟩ : ByteArray) (⟨#[120, 111, 114]⟩ : ByteArray) = false := rfl
theorem q_13_19 : eqS (⟨#[103, 101]⟩ : ByteArray) (⟨#[110, 111, 116]⟩ : ByteArray) = false := rfl
theorem q_13_20 : eqS (⟨#[103, 101]⟩ : ByteArray) (⟨#[115, 101, 108, 101, 99, 116]⟩ : ByteArray) = false := rfl
theorem q_13_21 : eqS (⟨#[103, 101]⟩ : ByteArray) (⟨#[116, 111, 105, 110, 116]⟩ : ByteArray) = false := rfl
theorem q_13_22 : eqS (⟨#[103, 101]⟩ : ByteArray) (⟨#[105, 110, 116]⟩ : ByteArray) = false := rfl
theorem q_13_23 : eqS (⟨#[103, 101]⟩ : ByteArray) (⟨#[98, 111, 111, 108]⟩ : ByteArray) = false := rfl
theorem q_13_24 : eqS (⟨#[103, 101]⟩ : ByteArray) (⟨#[65]⟩ : ByteArray) = false := rfl
theorem q_13_25 : eqS (⟨#[103, 101]⟩ : ByteArray) (⟨#[]⟩ : ByteArray) = false := rfl
theorem q_14_0 : eqS (⟨#[101, 113]⟩ : ByteArray) (⟨#[97, 100, 100]⟩ : ByteArray) = false := rfl
theorem q_14_1 : eqS (⟨#[101, 113]⟩ : ByteArray) (⟨#[115, 117, 98]⟩ : ByteArray) = false := rfl
theorem q_14_2 : eqS (⟨#[101, 113]⟩ : ByteArray) (⟨#[109, 117, 108]⟩ : ByteArray) = false := rfl
theorem q_14_3 : eqS (⟨#[101, 113]⟩ : ByteArray) (⟨#[100, 105, 118]⟩ : ByteArray) = false := rfl
theorem q_14_4 : eqS (⟨#[101, 113]⟩ : ByteArray) (⟨#[109, 111, 100]⟩ : ByteArray) = false := rfl
theorem q_14_5 : eqS (⟨#[101, 113]⟩ : ByteArray) (⟨#[109, 105, 110]⟩ : ByteArray) = false := rfl
theorem q_14_6 : eqS (⟨#[101, 113]⟩ : ByteArray) (⟨#[109, 97, 120]⟩ : ByteArray) = false := rfl
theorem q_14_7 : eqS (⟨#[101, 113]⟩ : ByteArray) (⟨#[110, 101, 103]⟩ : ByteArray) = false := rfl
theorem q_14_8 : eqS (⟨#[101, 113]⟩ : ByteArray) (⟨#[97, 98, 115]⟩ : ByteArray) = false := rfl
theorem q_14_9 : eqS (⟨#[101, 113]⟩ : ByteArray) (⟨#[115, 105, 103, 110]⟩ : ByteArray) = false := rfl
theorem q_14_10 : eqS (⟨#[101, 113]⟩ : ByteArray) (⟨#[108, 116]⟩ : ByteArray) = false := rfl
theorem q_14_11 : eqS (⟨#[101, 113]⟩ : ByteArray) (⟨#[108, 101]⟩ : ByteArray) = false := rfl
theorem q_14_12 : eqS (⟨#[101, 113]⟩ : ByteArray) (⟨#[103, 116]⟩ : ByteArray) = false := rfl
theorem q_14_13 : eqS (⟨#[101, 113]⟩ : ByteArray) (⟨#[103, 101]⟩ : ByteArray) = false := rfl
theorem q_14_14 : eqS (⟨#[101, 113]⟩ : ByteArray) (⟨#[101, 113]⟩ : ByteArray) = true := rfl
theorem q_14_15 : eqS (⟨#[101, 113]⟩ : ByteArray) (⟨#[110, 101]⟩ : ByteArray) = false := rfl
theorem q_14_16 : eqS (⟨#[101, 113]⟩ : ByteArray) (⟨#[97, 110, 100]⟩ : ByteArray) = false := rfl
theorem q_14_17 : eqS (⟨#[101, 113]⟩ : ByteArray) (⟨#[111, 114]⟩ : ByteArray) = false := rfl
theorem q_14_18 : eqS (⟨#[101, 113]⟩ : ByteArray) (⟨#[120, 111, 114]⟩ : ByteArray) = false := rfl
theorem q_14_19 : eqS (⟨#[101, 113]⟩ : ByteArray) (⟨#[110, 111, 116]⟩ : ByteArray) = false := rfl
theorem q_14_20 : eqS (⟨#[101, 113]⟩ : ByteArray) (⟨#[115, 101, 108, 101, 99, 116]⟩ : ByteArray) = false := rfl
theorem q_14_21 : eqS (⟨#[101, 113]⟩ : ByteArray) (⟨#[116, 111, 105, 110, 116]⟩ : ByteArray) = false := rfl
theorem q_14_22 : eqS (⟨#[101, 113]⟩ : ByteArray) (⟨#[105, 110, 116]⟩ : ByteArray) = false := rfl
theorem q_14_23 : eqS (⟨#[101, 113]⟩ : ByteArray) (⟨#[98, 111, 111, 108]⟩ : ByteArray) = false := rfl
theorem q_14_24 : eqS (⟨#[101, 113]⟩ : ByteArray) (⟨#[65]⟩ : ByteArray) = false := rfl
theorem q_14_25 : eqS (⟨#[101, 113]⟩ : ByteArray) (⟨#[]⟩ : ByteArray) = false := rfl
theorem q_15_0 : eqS (⟨#[110, 101]⟩ : ByteArray) (⟨#[97, 100, 100]⟩ : ByteArray) = false := rfl
theorem q_15_1 : eqS (⟨#[110, 101]⟩ : ByteArray) (⟨#[115, 117, 98]⟩ : ByteArray) = false := rfl
theorem q_15_2 : eqS (⟨#[110, 101]⟩ : ByteArray) (⟨#[109, 117, 108]⟩ : ByteArray) = false := rfl
theorem q_15_3 : eqS (⟨#[110, 101]⟩ : ByteArray) (⟨#[100, 105, 118]⟩ : ByteArray) = false := rfl
theorem q_15_4 : eqS (⟨#[110, 101]⟩ : ByteArray) (⟨#[109, 111, 100]⟩ : ByteArray) = false := rfl
theorem q_15_5 : eqS (⟨#[110, 101]⟩ : ByteArray) (⟨#[109, 105, 110]⟩ : ByteArray) = false := rfl
theorem q_15_6 : eqS (⟨#[110, 101]⟩ : ByteArray) (⟨#[109, 97, 120]⟩ : ByteArray) = false := rfl
theorem q_15_7 : eqS (⟨#[110, 101]⟩ : ByteArray) (⟨#[110, 101, 103]⟩ : ByteArray) = false := rfl
theorem q_15_8 : eqS (⟨#[110, 101]⟩ : ByteArray) (⟨#[97, 98, 115]⟩ : ByteArray) = false := rfl
theorem q_15_9 : eqS (⟨#[110, 101]⟩ : ByteArray) (⟨#[115, 105, 103, 110]⟩ : ByteArray) = false := rfl
theorem q_15_10 : eqS (⟨#[110, 101]⟩ : ByteArray) (⟨#[108, 116]⟩ : ByteArray) = false := rfl
theorem q_15_11 : eqS (⟨#[110, 101]⟩ : ByteArray) (⟨#[108, 101]⟩ : ByteArray) = false := rfl
theorem q_15_12 : eqS (⟨#[110, 101]⟩ : ByteArray) (⟨#[103, 116]⟩ : ByteArray) = false := rfl
theorem q_15_13 : eqS (⟨#[110, 101]⟩ : ByteArray) (⟨#[103, 101]⟩ : ByteArray) = false := rfl
theorem q_15_14 : eqS (⟨#[110, 101]⟩ : ByteArray) (⟨#[101, 113]⟩ : ByteArray) = false := rfl
theorem q_15_15 : eqS (⟨#[110, 101]⟩ : ByteArray) (⟨#[110, 101]⟩ : ByteArray) = true := rfl
theorem q_15_16 : eqS (⟨#[110, 101]⟩ : ByteArray) (⟨#[97, 110, 100]⟩ : ByteArray) = false := rfl
theorem q_15_17 : eqS (⟨#[110, 101]⟩ : ByteArray) (⟨#[111, 114]⟩ : ByteArray) = false := rfl
theorem q_15_18 : eqS (⟨#[110, 101]⟩ : ByteArray) (⟨#[120, 111, 114]⟩ : ByteArray) = false := rfl
theorem q_15_19 : eqS (⟨#[110, 101]⟩ : ByteArray) (⟨#[110, 111, 116]⟩ : ByteArray) = false := rfl
theorem q_15_20 : eqS (⟨#[110, 101]⟩ : ByteArray) (⟨#[115, 101, 108, 101, 99, 116]⟩ : ByteArray) = false := rfl
theorem q_15_21 : eqS (⟨#[110, 101]⟩ : ByteArray) (⟨#[116, 111, 105, 110, 116]⟩ : ByteArray) = false := rfl
theorem q_15_22 : eqS (⟨#[110, 101]⟩ : ByteArray) (⟨#[105, 110, 116]⟩ : ByteArray) = false := rfl
theorem q_15_23 : eqS (⟨#[110, 101]⟩ : ByteArray) (⟨#[98, 111, 111, 108]⟩ : ByteArray) = false := rfl
theorem q_15_24 : eqS (⟨#[110, 101]⟩ : ByteArray) (⟨#[65]⟩ : ByteArray) = false := rfl
theorem q_15_25 : eqS (⟨#[110, 101]⟩ : ByteArray) (⟨#[]⟩ : ByteArray) = false := rfl
theorem q_16_0 : eqS (⟨#[97, 110, 100]⟩ : ByteArray) (⟨#[97, 100, 100]⟩ : ByteArray) = false := rfl
theorem q_16_1 : eqS (⟨#[97, 110, 100]⟩ : ByteArray) (⟨#[115, 117, 98]⟩ : ByteArray) = false := rfl
theorem q_16_2 : eqS (⟨#[97, 110, 100]⟩ : ByteArray) (⟨#[109, 117, 108]⟩ : ByteArray) = false := rfl
theorem q_16_3 : eqS (⟨#[97, 110, 100]⟩ : ByteArray) (⟨#[100, 105, 118]⟩ : ByteArray) = false := rfl
theorem q_16_4 : eqS (⟨#[97, 110, 100]⟩ : ByteArray) (⟨#[109, 111, 100]⟩ : ByteArray) = false := rfl
theorem q_16_5 : eqS (⟨#[97, 110, 100]⟩ : ByteArray) (⟨#[109, 105, 110]⟩ : ByteArray) = false := rfl
theorem q_16_6 : eqS (⟨#[97, 110, 100]⟩ : ByteArray) (⟨#[109, 97, 120]⟩ : ByteArray) = false := rfl
theorem q_16_7 : eqS (⟨#[97, 110, 100]⟩ : ByteArray) (⟨#[110, 101, 103]⟩ : ByteArray) = false := rfl
theorem q_16_8 : eqS (⟨#[97, 110, 100]⟩ : ByteArray) (⟨#[97, 98, 115]⟩ : ByteArray) = false := rfl
theorem q_16_9 : eqS (⟨#[97, 110, 100]⟩ : ByteArray) (⟨#[115, 105, 103, 110]⟩ : ByteArray) = false := rfl
theorem q_16_10 : eqS (⟨#[97, 110, 100]⟩ : ByteArray) (⟨#[108, 116]⟩ : ByteArray) = false := rfl
theorem q_16_11 : eqS (⟨#[97, 110, 100]⟩ : ByteArray) (⟨#[108, 101]⟩ : ByteArray) = false := rfl
theorem q_16_12 : eqS (⟨#[97, 110, 100]⟩ : ByteArray) (⟨#[103, 116]⟩ : ByteArray) = false := rfl
theorem q_16_13 : eqS (⟨#[97, 110, 100]⟩ : ByteArray) (⟨#[103, 101]⟩ : ByteArray) = false := rfl
theorem q_16_14 : eqS (⟨#[97, 110, 100]⟩ : ByteArray) (⟨#[101, 113]⟩ : ByteArray) = false := rfl
theorem q_16_15 : eqS (⟨#[97, 110, 100]⟩ : ByteArray) (⟨#[110, 101]⟩ : ByteArray) = false := rfl
theorem q_16_16 : eqS (⟨#[97, 110, 100]⟩ : ByteArray) (⟨#[97, 110, 100]⟩ : ByteArray) = true := rfl
theorem q_16_17 : eqS (⟨#[97, 110, 100]⟩ : ByteArray) (⟨#[111, 114]⟩ : ByteArray) = false := rfl
theorem q_16_18 : eqS (⟨#[97, 110, 100]⟩ : ByteArray) (⟨#[120, 111, 114]⟩ : ByteArray) = false := rfl
theorem q_16_19 : eqS (⟨#[97, 110, 100]⟩ : ByteArray) (⟨#[110, 111, 116]⟩ : ByteArray) = false := rfl
theorem q_16_20 : eqS (⟨#[97, 110, 100]⟩ : ByteArray) (⟨#[115, 101, 108, 101, 99, 116]⟩ : ByteArray) = false := rfl
theorem q_16_21 : eqS (⟨#[97, 110, 100]⟩ : ByteArray) (⟨#[116, 111, 105, 110, 116]⟩ : ByteArray) = false := rfl
theorem q_16_22 : eqS (⟨#[97, 110, 100]⟩ : ByteArray) (⟨#[105, 110, 116]⟩ : ByteArray) = false := rfl
theorem q_16_23 : eqS (⟨#[97, 110, 100]⟩ : ByteArray) (⟨#[98, 111, 111, 108]⟩ : ByteArray) = false := rfl
theorem q_16_24 : eqS (⟨#[97, 110, 100]⟩ : ByteArray) (⟨#[65]⟩ : ByteArray) = false := rfl
theorem q_16_25 : eqS (⟨#[97, 110, 100]⟩ : ByteArray) (⟨#[]⟩ : ByteArray) = false := rfl
theorem q_17_0 : eqS (⟨#[111, 114]⟩ : ByteArray) (⟨#[97, 100, 100]⟩ : ByteArray) = false := rfl
theorem q_17_1 : eqS (⟨#[111, 114]⟩ : ByteArray) (⟨#[115, 117, 98]⟩ : ByteArray) = false := rfl
theorem q_17_2 : eqS (⟨#[111, 114]⟩ : ByteArray) (⟨#[109, 117, 108]⟩ : ByteArray) = false := rfl
theorem q_17_3 : eqS (⟨#[111, 114]⟩ : ByteArray) (⟨#[100, 105, 118]⟩ : ByteArray) = false := rfl
theorem q_17_4 : eqS (⟨#[111, 114]⟩ : ByteArray) (⟨#[109, 111, 100]⟩ : ByteArray) = false := rfl
theorem q_17_5 : eqS (⟨#[111, 114]⟩ : ByteArray) (⟨#[109, 105, 110]⟩ : ByteArray) = false := rfl
theorem q_17_6 : eqS (⟨#[111, 114]⟩ : ByteArray) (⟨#[109, 97, 120]⟩ : ByteArray) = false := rfl
theorem q_17_7 : eqS (⟨#[111, 114]⟩ : ByteArray) (⟨#[110, 101, 103]⟩ : ByteArray) = false := rfl
theorem q_17_8 : eqS (⟨#[111, 114]⟩ : ByteArray) (⟨#[97, 98, 115]⟩ : ByteArray) = false := rfl
theorem q_17_9 : eqS (⟨#[111, 114]⟩ : ByteArray) (⟨#[115, 105, 103, 110]⟩ : ByteArray) = false := rfl
theorem q_17_10 : eqS (⟨#[111, 114]⟩ : ByteArray) (⟨#[108, 116]⟩ : ByteArray) = false := rfl
theorem q_17_11 : eqS (⟨#[111, 114]⟩ : ByteArray) (⟨#[108, 101]⟩ : ByteArray) = false := rfl
theorem q_17_12 : eqS (⟨#[111, 114]⟩ : ByteArray) (⟨#[103, 116]⟩ : ByteArray) = false := rfl
theorem q_17_13 : eqS (⟨#[111, 114]⟩ : ByteArray) (⟨#[103, 101]⟩ : ByteArray) = false := rfl
theorem q_17_14 : eqS (⟨#[111, 114]⟩ : ByteArray) (⟨#[101, 113]⟩ : ByteArray) = false := rfl
theorem q_17_15 : eqS (⟨#[111, 114]⟩ : ByteArray) (⟨#[110, 101]⟩ : ByteArray) = false := rfl
theorem q_17_16 : eqS (⟨#[111, 114]⟩ : ByteArray) (⟨#[97, 110, 100]⟩ : ByteArray) = false := rfl
theorem q_17_17 : eqS (⟨#[111, 114]⟩ : ByteArray) (⟨#[111, 114]⟩ : ByteArray) = true := rfl
theorem q_17_18 : eqS (⟨#[111, 114]⟩ : ByteArray) (⟨#[120, 111, 114]⟩ : ByteArray) = false := rfl
theorem q_17_19 : eqS (⟨#[111, 114]⟩ : ByteArray) (⟨#[110, 111, 116]⟩ : ByteArray) = false := rfl
theorem q_17_20 : eqS (⟨#[111, 114]⟩ : ByteArray) (⟨#[115, 101, 108, 101, 99, 116]⟩ : ByteArray) = false := rfl
theorem q_17_21 : eqS (⟨#[111, 114]⟩ : ByteArray) (⟨#[116, 111, 105, 110, 116]⟩ : ByteArray) = false := rfl
theorem q_17_22 : eqS (⟨#[111, 114]⟩ : ByteArray) (⟨#[105, 110, 116]⟩ : ByteArray) = false := rfl
theorem q_17_23 : eqS (⟨#[111, 114]⟩ : ByteArray) (⟨#[98, 111, 111, 108]⟩ : ByteArray) = false := rfl
theorem q_17_24 : eqS (⟨#[111, 114]⟩ : ByteArray) (⟨#[65]⟩ : ByteArray) = false := rfl
theorem q_17_25 : eqS (⟨#[111, 114]⟩ : ByteArray) (⟨#[]⟩ : ByteArray) = false := rfl
theorem q_18_0 : eqS (⟨#[120, 111, 114]⟩ : ByteArray) (⟨#[97, 100, 100]⟩ : ByteArray) = false := rfl
theorem q_18_1 : eqS (⟨#[120, 111, 114]⟩ : ByteArray) (⟨#[115, 117, 98]⟩ : ByteArray) = false := rfl
theorem q_18_2 : eqS (⟨#[120, 111, 114]⟩ : ByteArray) (⟨#[109, 117, 108]⟩ : ByteArray) = false := rfl
theorem q_18_3 : eqS (⟨#[120, 111, 114]⟩ : ByteArray) (⟨#[100, 105, 118]⟩ : ByteArray) = false := rfl
theorem q_18_4 : eqS (⟨#[120, 111, 114]⟩ : ByteArray) (⟨#[109, 111, 100]⟩ : ByteArray) = false := rfl
theorem q_18_5 : eqS (⟨#[120, 111, 114]⟩ : ByteArray) (⟨#[109, 105, 110]⟩ : ByteArray) = false := rfl
theorem q_18_6 : eqS (⟨#[120, 111, 114]⟩ : ByteArray) (⟨#[109, 97, 120]⟩ : ByteArray) = false := rfl
theorem q_18_7 : eqS (⟨#[120, 111, 114]⟩ : ByteArray) (⟨#[110, 101, 103]⟩ : ByteArray) = false := rfl
theorem q_18_8 : eqS (⟨#[120, 111, 114]⟩ : ByteArray) (⟨#[97, 98, 115]⟩ : ByteArray) = false := rfl
theorem q_18_9 : eqS (⟨#[120, 111, 114]⟩ : ByteArray) (⟨#[115, 105, 103, 110]⟩ : ByteArray) = false := rfl
theorem q_18_10 : eqS (⟨#[120, 111, 114]⟩ : ByteArray) (⟨#[108, 116]⟩ : ByteArray) = false := rfl
theorem q_18_11 : eqS (⟨#[120, 111, 114]⟩ : ByteArray) (⟨#[108, 101]⟩ : ByteArray) = false := rfl
theorem q_18_12 : eqS (⟨#[120, 111, 114]⟩ : ByteArray) (⟨#[103, 116]⟩ : ByteArray) = false := rfl
theorem q_18_13 : eqS (⟨#[120, 111, 114]⟩ : ByteArray) (⟨#[103, 101]⟩ : ByteArray) = false := rfl
theorem q_18_14 : eqS (⟨#[120, 111, 114]⟩ : ByteArray) (⟨#[101, 113]⟩ : ByteArray) = false := rfl
theorem q_18_15 : eqS (⟨#[120, 111, 114]⟩ : ByteArray) (⟨#[110, 101]⟩ : ByteArray) = false := rfl
theorem q_18_16 : eqS (⟨#[120, 111, 114]⟩ : ByteArray) (⟨#[97, 110, 100]⟩ : ByteArray) = false := rfl
theorem q_18_17 : eqS (⟨#[120, 111, 114]⟩ : ByteArray) (⟨#[111, 114]⟩ : ByteArray) = false := rfl
theorem q_18_18 : eqS (⟨#[120, 111, 114]⟩ : ByteArray) (⟨#[120, 111, 114]⟩ : ByteArray) = true := rfl
theorem q_18_19 : eqS (⟨#[120, 111, 114]⟩ : ByteArray) (⟨#[110, 111, 116]⟩ : ByteArray) = false := rfl
theorem q_18_20 : eqS (⟨#[120, 111, 114]⟩ : ByteArray) (⟨#[115, 101, 108, 101, 99, 116]⟩ : ByteArray) = false := rfl
theorem q_18_21 : eqS (⟨#[120, 111, 114]⟩ : ByteArray) (⟨#[116, 111, 105, 110, 116]⟩ : ByteArray) = false := rfl
theorem q_18_22 : eqS (⟨#[120, 111, 114]⟩ : ByteArray) (⟨#[105, 110, 116]⟩ : ByteArray) = false := rfl
theorem q_18_23 : eqS (⟨#[120, 111, 114]⟩ : ByteArray) (⟨#[98, 111, 111, 108]⟩ : ByteArray) = false := rfl
theorem q_18_24 : eqS (⟨#[120, 111, 114]⟩ : ByteArray) (⟨#[65]⟩ : ByteArray) = false := rfl
theorem q_18_25 : eqS (⟨#[120, 111, 114]⟩ : ByteArray) (⟨#[]⟩ : ByteArray) = false := rfl
theorem q_19_0 : eqS (⟨#[110, 111, 116]⟩ : ByteArray) (⟨#[97, 100, 100]⟩ : ByteArray) = false := rfl
theorem q_19_1 : eqS (⟨#[110, 111, 116]⟩ : ByteArray) (⟨#[115, 117, 98]⟩ : ByteArray) = false := rfl
theorem q_19_2 : eqS (⟨#[110, 111, 116]⟩ : ByteArray) (⟨#[109, 117, 108]⟩ : ByteArray) = false := rfl
theorem q_19_3 : eqS (⟨#[110, 111, 116]⟩ : ByteArray) (⟨#[100, 105, 118]⟩ : ByteArray) = false := rfl
theorem q_19_4 : eqS (⟨#[110, 111, 116]⟩ : ByteArray) (⟨#[109, 111, 100]⟩ : ByteArray) = false := rfl
theorem q_19_5 : eqS (⟨#[110, 111, 116]⟩ : ByteArray) (⟨#[109, 105, 110]⟩ : ByteArray) = false := rfl
theorem q_19_6 : eqS (⟨#[110, 111, 116]⟩ : ByteArray) (⟨#[109, 97, 120]⟩ : ByteArray) = false := rfl
theorem q_19_7 : eqS (⟨#[110, 111, 116]⟩ : ByteArray) (⟨#[110, 101, 103]⟩ : ByteArray) = false := rfl
theorem q_19_8 : eqS (⟨#[110, 111, 116]⟩ : ByteArray) (⟨#[97, 98, 115]⟩ : ByteArray) = false := rfl
theorem q_19_9 : eqS (⟨#[110, 111, 116]⟩ : ByteArray) (⟨#[115, 105, 103, 110]⟩ : ByteArray) = false := rfl
theorem q_19_10 : eqS (⟨#[110, 111, 116]⟩ : ByteArray) (⟨#[108, 116]⟩ : ByteArray) = false := rfl
theorem q_19_11 : eqS (⟨#[110, 111, 116]⟩ : ByteArray) (⟨#[108, 101]⟩ : ByteArray) = false := rfl
theorem q_19_12 : eqS (⟨#[110, 111, 116]⟩ : ByteArray) (⟨#[103, 116]⟩ : ByteArray) = false := rfl
theorem q_19_13 : eqS (⟨#[110, 111, 116]⟩ : ByteArray) (⟨#[103, 101]⟩ : ByteArray) = false := rfl
theorem q_19_14 : eqS (⟨#[110, 111, 116]⟩ : ByteArray) (⟨#[101, 113]⟩ : ByteArray) = false := rfl
theorem q_19_15 : eqS (⟨#[110, 111, 116]⟩ : ByteArray) (⟨#[110, 101]⟩ : ByteArray) = false := rfl
theorem q_19_16 : eqS (⟨#[110, 111, 116]⟩ : ByteArray) (⟨#[97, 110, 100]⟩ : ByteArray) = false := rfl
theorem q_19_17 : eqS (⟨#[110, 111, 116]⟩ : ByteArray) (⟨#[111, 114]⟩ : ByteArray) = false := rfl
theorem q_19_18 : eqS (⟨#[110, 111, 116]⟩ : ByteArray) (⟨#[120, 111, 114]⟩ : ByteArray) = false := rfl
theorem q_19_19 : eqS (⟨#[110, 111, 116]⟩ : ByteArray) (⟨#[110, 111, 116]⟩ : ByteArray) = true := rfl
theorem q_19_20 : eqS (⟨#[110, 111, 116]⟩ : ByteArray) (⟨#[115, 101, 108, 101, 99, 116]⟩ : ByteArray) = false := rfl
theorem q_19_21 : eqS (⟨#[110, 111, 116]⟩ : ByteArray) (⟨#[116, 111, 105, 110, 116]⟩ : ByteArray) = false := rfl
theorem q_19_22 : eqS (⟨#[110, 111, 116]⟩ : ByteArray) (⟨#[105, 110, 116]⟩ : ByteArray) = false := rfl
theorem q_19_23 : eqS (⟨#[110, 111, 116]⟩ : ByteArray) (⟨#[98, 111, 111, 108]⟩ : ByteArray) = false := rfl
theorem q_19_24 : eqS (⟨#[110, 111, 116]⟩ : ByteArray) (⟨#[65]⟩ : ByteArray) = false := rfl
theorem q_19_25 : eqS (⟨#[110, 111, 116]⟩ : ByteArray) (⟨#[]⟩ : ByteArray) = false := rfl
theorem q_20_0 : eqS (⟨#[115, 101, 108, 101, 99, 116]⟩ : ByteArray) (⟨#[97, 100, 100]⟩ : ByteArray) = false := rfl
theorem q_20_1 : eqS (⟨#[115, 101, 108, 101, 99, 116]⟩ : ByteArray) (⟨#[115, 117, 98]⟩ : ByteArray) = false := rfl
theorem q_20_2 : eqS (⟨#[115, 101, 108, 101, 99, 116]⟩ : ByteArray) (⟨#[109, 117, 108]⟩ : ByteArray) = false := rfl
theorem q_20_3 : eqS (⟨#[115, 101, 108, 101, 99, 116]⟩ : ByteArray) (⟨#[100, 105, 118]⟩ : ByteArray) = false := rfl
theorem q_20_4 : eqS (⟨#[115, 101, 108, 101, 99, 116]⟩ : ByteArray) (⟨#[109, 111, 100]⟩ : ByteArray) = false := rfl
theorem q_20_5 : eqS (⟨#[115, 101, 108, 101, 99, 116]⟩ : ByteArray) (⟨#[109, 105, 110]⟩ : ByteArray) = false := rfl
theorem q_20_6 : eqS (⟨#[115, 101, 108, 101, 99, 116]⟩ : ByteArray) (⟨#[109, 97, 120]⟩ : ByteArray) = false := rfl
theorem q_20_7 : eqS (⟨#[115, 101, 108, 101, 99, 116]⟩ : ByteArray) (⟨#[110, 101, 103]⟩ : ByteArray) = false := rfl
theorem q_20_8 : eqS (⟨#[115, 101, 108, 101, 99, 116]⟩ : ByteArray) (⟨#[97, 98, 115]⟩ : ByteArray) = false := rfl
theorem q_20_9 : eqS (⟨#[115, 101, 108, 101, 99, 116]⟩ : ByteArray) (⟨#[115, 105, 103, 110]⟩ : ByteArray) = false := rfl
theorem q_20_10 : eqS (⟨#[115, 101, 108, 101, 99, 116]⟩ : ByteArray) (⟨#[108, 116]⟩ : ByteArray) = false := rfl
theorem q_20_11 : eqS (⟨#[115, 101, 108, 101, 99, 116]⟩ : ByteArray) (⟨#[108, 101]⟩ : ByteArray) = false := rfl
theorem q_20_12 : eqS (⟨#[115, 101, 108, 101, 99, 116]⟩ : ByteArray) (⟨#[103, 116]⟩ : ByteArray) = false := rfl
theorem q_20_13 : eqS (⟨#[115, 101, 108, 101, 99, 116]⟩ : ByteArray) (⟨#[103, 101]⟩ : ByteArray) = false := rfl
theorem q_20_14 : eqS (⟨#[115, 101, 108, 101, 99, 116]⟩ : ByteArray) (⟨#[101, 113]⟩ : ByteArray) = false := rfl
theorem q_20_15 : eqS (⟨#[115, 101, 108, 101, 99, 116]⟩ : ByteArray) (⟨#[110, 101]⟩ : ByteArray) = false := rfl
theorem q_20_16 : eqS (⟨#[115, 101, 108, 101, 99, 116]⟩ : ByteArray) (⟨#[97, 110, 100]⟩ : ByteArray) = false := rfl
theorem q_20_17 : eqS (⟨#[115, 101, 108, 101, 99, 116]⟩ : ByteArray) (⟨#[111, 114]⟩ : ByteArray) = false := rfl
theorem q_20_18 : eqS (⟨#[115, 101, 108, 101, 99, 116]⟩ : ByteArray) (⟨#[120, 111, 114]⟩ : ByteArray) = false := rfl
theorem q_20_19 : eqS (⟨#[115, 101, 108, 101, 99, 116]⟩ : ByteArray) (⟨#[110, 111, 116]⟩ : ByteArray) = false := rfl
theorem q_20_20 : eqS (⟨#[115, 101, 108, 101, 99, 116]⟩ : ByteArray) (⟨#[115, 101, 108, 101, 99, 116]⟩ : ByteArray) = true := rfl
theorem q_20_21 : eqS (⟨#[115, 101, 108, 101, 99, 116]⟩ : ByteArray) (⟨#[116, 111, 105, 110, 116]⟩ : ByteArray) = false := rfl
theorem q_20_22 : eqS (⟨#[115, 101, 108, 101, 99, 116]⟩ : ByteArray) (⟨#[105, 110, 116]⟩ : ByteArray) = false := rfl
theorem q_20_23 : eqS (⟨#[115, 101, 108, 101, 99, 116]⟩ : ByteArray) (⟨#[98, 111, 111, 108]⟩ : ByteArray) = false := rfl
theorem q_20_24 : eqS (⟨#[115, 101, 108, 101, 99, 116]⟩ : ByteArray) (⟨#[65]⟩ : ByteArray) = false := rfl
theorem q_20_25 : eqS (⟨#[115, 101, 108, 101, 99, 116]⟩ : ByteArray) (⟨#[]⟩ : ByteArray) = false := rfl
theorem q_21_0 : eqS (⟨#[116, 111, 105, 110, 116]⟩ : ByteArray) (⟨#[97, 100, 100]⟩ : ByteArray) = false := rfl
theorem q_21_1 : eqS (⟨#[116, 111, 105, 110, 116]⟩ : ByteArray) (⟨#[115, 117, 98]⟩ : ByteArray) = false := rfl
theorem q_21_2 : eqS (⟨#[116, 111, 105, 110, 116]⟩ : ByteArray) (⟨#[109, 117, 108]⟩ : ByteArray) = false := rfl
theorem q_21_3 : eqS (⟨#[116, 111, 105, 110, 116]⟩ : ByteArray) (⟨#[100, 105, 118]⟩ : ByteArray) = false := rfl
theorem q_21_4 : eqS (⟨#[116, 111, 105, 110, 116]⟩ : ByteArray) (⟨#[109, 111, 100]⟩ : ByteArray) = false := rfl
theorem q_21_5 : eqS (⟨#[116, 111, 105, 110, 116]⟩ : ByteArray) (⟨#[109, 105, 110]⟩ : ByteArray) = false := rfl
theorem q_21_6 : eqS (⟨#[116, 111, 105, 110, 116]⟩ : ByteArray) (⟨#[109, 97, 120]⟩ : ByteArray) = false := rfl
theorem q_21_7 : eqS (⟨#[116, 111, 105, 110, 116]⟩ : ByteArray) (⟨#[110, 101, 103]⟩ : ByteArray) = false := rfl
theorem q_21_8 : eqS (⟨#[116, 111, 105, 110, 116]⟩ : ByteArray) (⟨#[97, 98, 115]⟩ : ByteArray) = false := rfl
theorem q_21_9 : eqS (⟨#[116, 111, 105, 110, 116]⟩ : ByteArray) (⟨#[115, 105, 103, 110]⟩ : ByteArray) = false := rfl
theorem q_21_10 : eqS (⟨#[116, 111, 105, 110, 116]⟩ : ByteArray) (⟨#[108, 116]⟩ : ByteArray) = false := rfl
theorem q_21_11 : eqS (⟨#[116, 111, 105, 110, 116]⟩ : ByteArray) (⟨#[108, 101]⟩ : ByteArray) = false := rfl
theorem q_21_12 : eqS (⟨#[116, 111, 105, 110, 116]⟩ : ByteArray) (⟨#[103, 116]⟩ : ByteArray) = false := rfl
theorem q_21_13 : eqS (⟨#[116, 111, 105, 110, 116]⟩ : ByteArray) (⟨#[103, 101]⟩ : ByteArray) = false := rfl
theorem q_21_14 : eqS (⟨#[116, 111, 105, 110, 116]⟩ : ByteArray) (⟨#[101, 113]⟩ : ByteArray) = false := rfl
theorem q_21_15 : eqS (⟨#[116, 111, 105, 110, 116]⟩ : ByteArray) (⟨#[110, 101]⟩ : ByteArray) = false := rfl
theorem q_21_16 : eqS (⟨#[116, 111, 105, 110, 116]⟩ : ByteArray) (⟨#[97, 110, 100]⟩ : ByteArray) = false := rfl
theorem q_21_17 : eqS (⟨#[116, 111, 105, 110, 116]⟩ : ByteArray) (⟨#[111, 114]⟩ : ByteArray) = false := rfl
theorem q_21_18 : eqS (⟨#[116, 111, 105, 110, 116]⟩ : ByteArray) (⟨#[120, 111, 114]⟩ : ByteArray) = false := rfl
theorem q_21_19 : eqS (⟨#[116, 111, 105, 110, 116]⟩ : ByteArray) (⟨#[110, 111, 116]⟩ : ByteArray) = false := rfl
theorem q_21_20 : eqS (⟨#[116, 111, 105, 110, 116]⟩ : ByteArray) (⟨#[115, 101, 108, 101, 99, 116]⟩ : ByteArray) = false := rfl
theorem q_21_21 : eqS (⟨#[116, 111, 105, 110, 116]⟩ : ByteArray) (⟨#[116, 111, 105, 110, 116]⟩ : ByteArray) = true := rfl
theorem q_21_22 : eqS (⟨#[116, 111, 105, 110, 116]⟩ : ByteArray) (⟨#[105, 110, 116]⟩ : ByteArray) = false := rfl
theorem q_21_23 : eqS (⟨#[116, 111, 105, 110, 116]⟩ : ByteArray) (⟨#[98, 111, 111, 108]⟩ : ByteArray) = false := rfl
theorem q_21_24 : eqS (⟨#[116, 111, 105, 110, 116]⟩ : ByteArray) (⟨#[65]⟩ : ByteArray) = false := rfl
theorem q_21_25 : eqS (⟨#[116, 111, 105, 110, 116]⟩ : ByteArray) (⟨#[]⟩ : ByteArray) = false := rfl
theorem q_22_0 : eqS (⟨#[105, 110, 116]⟩ : ByteArray) (⟨#[97, 100, 100]⟩ : ByteArray) = false := rfl
theorem q_22_1 : eqS (⟨#[105, 110, 116]⟩ : ByteArray) (⟨#[115, 117, 98]⟩ : ByteArray) = false := rfl
theorem q_22_2 : eqS (⟨#[105, 110, 116]⟩ : ByteArray) (⟨#[109, 117, 108]⟩ : ByteArray) = false := rfl
theorem q_22_3 : eqS (⟨#[105, 110, 116]⟩ : ByteArray) (⟨#[100, 105, 118]⟩ : ByteArray) = false := rfl
theorem q_22_4 : eqS (⟨#[105, 110, 116]⟩ : ByteArray) (⟨#[109, 111, 100]⟩ : ByteArray) = false := rfl
theorem q_22_5 : eqS (⟨#[105, 110, 116]⟩ : ByteArray) (⟨#[109, 105, 110]⟩ : ByteArray) = false := rfl
theorem q_22_6 : eqS (⟨#[105, 110, 116]⟩ : ByteArray) (⟨#[109, 97, 120]⟩ : ByteArray) = false := rfl
theorem q_22_7 : eqS (⟨#[105, 110, 116]⟩ : ByteArray) (⟨#[110, 101, 103]⟩ : ByteArray) = false := rfl
theorem q_22_8 : eqS (⟨#[105, 110, 116]⟩ : ByteArray) (⟨#[97, 98, 115]⟩ : ByteArray) = false := rfl
theorem q_22_9 : eqS (⟨#[105, 110, 116]⟩ : ByteArray) (⟨#[115, 105, 103, 110]⟩ : ByteArray) = false := rfl
theorem q_22_10 : eqS (⟨#[105, 110, 116]⟩ : ByteArray) (⟨#[108, 116]⟩ : ByteArray) = false := rfl
theorem q_22_11 : eqS (⟨#[105, 110, 116]⟩ : ByteArray) (⟨#[108, 101]⟩ : ByteArray) = false := rfl
theorem q_22_12 : eqS (⟨#[105, 110, 116]⟩ : ByteArray) (⟨#[103, 116]⟩ : ByteArray) = false := rfl
theorem q_22_13 : eqS (⟨#[105, 110, 116]⟩ : ByteArray) (⟨#[103, 101]⟩ : ByteArray) = false := rfl
theorem q_22_14 : eqS (⟨#[105, 110, 116]⟩ : ByteArray) (⟨#[101, 113]⟩ : ByteArray) = false := rfl
theorem q_22_15 : eqS (⟨#[105, 110, 116]⟩ : ByteArray) (⟨#[110, 101]⟩ : ByteArray) = false := rfl
theorem q_22_16 : eqS (⟨#[105, 110, 116]⟩ : ByteArray) (⟨#[97, 110, 100]⟩ : ByteArray) = false := rfl
theorem q_22_17 : eqS (⟨#[105, 110, 116]⟩ : ByteArray) (⟨#[111, 114]⟩ : ByteArray) = false := rfl
theorem q_22_18 : eqS (⟨#[105, 110, 116]⟩ : ByteArray) (⟨#[120, 111, 114]⟩ : ByteArray) = false := rfl
theorem q_22_19 : eqS (⟨#[105, 110, 116]⟩ : ByteArray) (⟨#[110, 111, 116]⟩ : ByteArray) = false := rfl
theorem q_22_20 : eqS (⟨#[105, 110, 116]⟩ : ByteArray) (⟨#[115, 101, 108, 101, 99, 116]⟩ : ByteArray) = false := rfl
theorem q_22_21 : eqS (⟨#[105, 110, 116]⟩ : ByteArray) (⟨#[116, 111, 105, 110, 116]⟩ : ByteArray) = false := rfl
theorem q_22_22 : eqS (⟨#[105, 110, 116]⟩ : ByteArray) (⟨#[105, 110, 116]⟩ : ByteArray) = true := rfl
theorem q_22_23 : eqS (⟨#[105, 110, 116]⟩ : ByteArray) (⟨#[98, 111, 111, 108]⟩ : ByteArray) = false := rfl
theorem q_22_24 : eqS (⟨#[105, 110, 116]⟩ : ByteArray) (⟨#[65]⟩ : ByteArray) = false := rfl
theorem q_22_25 : eqS (⟨#[105, 110, 116]⟩ : ByteArray) (⟨#[]⟩ : ByteArray) = false := rfl
theorem q_23_0 : eqS (⟨#[98, 111, 111, 108]⟩ : ByteArray) (⟨#[97, 100, 100]⟩ : ByteArray) = false := rfl
theorem q_23_1 : eqS (⟨#[98, 111, 111, 108]⟩ : ByteArray) (⟨#[115, 117, 98]⟩ : ByteArray) = false := rfl
theorem q_23_2 : eqS (⟨#[98, 111, 111, 108]⟩ : ByteArray) (⟨#[109, 117, 108]⟩ : ByteArray) = false := rfl
theorem q_23_3 : eqS (⟨#[98, 111, 111, 108]⟩ : ByteArray) (⟨#[100, 105, 118]⟩ : ByteArray) = false := rfl
theorem q_23_4 : eqS (⟨#[98, 111, 111, 108]⟩ : ByteArray) (⟨#[109, 111, 100]⟩ : ByteArray) = false := rfl
theorem q_23_5 : eqS (⟨#[98, 111, 111, 108]⟩ : ByteArray) (⟨#[109, 105, 110]⟩ : ByteArray) = false := rfl
theorem q_23_6 : eqS (⟨#[98, 111, 111, 108]⟩ : ByteArray) (⟨#[109, 97, 120]⟩ : ByteArray) = false := rfl
theorem q_23_7 : eqS (⟨#[98, 111, 111, 108]⟩ : ByteArray) (⟨#[110, 101, 103]⟩ : ByteArray) = false := rfl
theorem q_23_8 : eqS (⟨#[98, 111, 111, 108]⟩ : ByteArray) (⟨#[97, 98, 115]⟩ : ByteArray) = false := rfl
theorem q_23_9 : eqS (⟨#[98, 111, 111, 108]⟩ : ByteArray) (⟨#[115, 105, 103, 110]⟩ : ByteArray) = false := rfl
theorem q_23_10 : eqS (⟨#[98, 111, 111, 108]⟩ : ByteArray) (⟨#[108, 116]⟩ : ByteArray) = false := rfl
theorem q_23_11 : eqS (⟨#[98, 111, 111, 108]⟩ : ByteArray) (⟨#[108, 101]⟩ : ByteArray) = false := rfl
theorem q_23_12 : eqS (⟨#[98, 111, 111, 108]⟩ : ByteArray) (⟨#[103, 116]⟩ : ByteArray) = false := rfl
theorem q_23_13 : eqS (⟨#[98, 111, 111, 108]⟩ : ByteArray) (⟨#[103, 101]⟩ : ByteArray) = false := rfl
theorem q_23_14 : eqS (⟨#[98, 111, 111, 108]⟩ : ByteArray) (⟨#[101, 113]⟩ : ByteArray) = false := rfl
theorem q_23_15 : eqS (⟨#[98, 111, 111, 108]⟩ : ByteArray) (⟨#[110, 101]⟩ : ByteArray) = false := rfl
theorem q_23_16 : eqS (⟨#[98, 111, 111, 108]⟩ : ByteArray) (⟨#[97, 110, 100]⟩ : ByteArray) = false := rfl
theorem q_23_17 : eqS (⟨#[98, 111, 111, 108]⟩ : ByteArray) (⟨#[111, 114]⟩ : ByteArray) = false := rfl
theorem q_23_18 : eqS (⟨#[98, 111, 111, 108]⟩ : ByteArray) (⟨#[120, 111, 114]⟩ : ByteArray) = false := rfl
theorem q_23_19 : eqS (⟨#[98, 111, 111, 108]⟩ : ByteArray) (⟨#[110, 111, 116]⟩ : ByteArray) = false := rfl
theorem q_23_20 : eqS (⟨#[98, 111, 111, 108]⟩ : ByteArray) (⟨#[115, 101, 108, 101, 99, 116]⟩ : ByteArray) = false := rfl
theorem q_23_21 : eqS (⟨#[98, 111, 111, 108]⟩ : ByteArray) (⟨#[116, 111, 105, 110, 116]⟩ : ByteArray) = false := rfl
theorem q_23_22 : eqS (⟨#[98, 111, 111, 108]⟩ : ByteArray) (⟨#[105, 110, 116]⟩ : ByteArray) = false := rfl
theorem q_23_23 : eqS (⟨#[98, 111, 111, 108]⟩ : ByteArray) (⟨#[98, 111, 111, 108]⟩ : ByteArray) = true := rfl
theorem q_23_24 : eqS (⟨#[98, 111, 111, 108]⟩ : ByteArray) (⟨#[65]⟩ : ByteArray) = false := rfl
theorem q_23_25 : eqS (⟨#[98, 111, 111, 108]⟩ : ByteArray) (⟨#[]⟩ : ByteArray) = false := rfl
theorem q_24_0 : eqS (⟨#[65]⟩ : ByteArray) (⟨#[97, 100, 100]⟩ : ByteArray) = false := rfl
theorem q_24_1 : eqS (⟨#[65]⟩ : ByteArray) (⟨#[115, 117, 98]⟩ : ByteArray) = false := rfl
theorem q_24_2 : eqS (⟨#[65]⟩ : ByteArray) (⟨#[109, 117, 108]⟩ : ByteArray) = false := rfl
theorem q_24_3 : eqS (⟨#[65]⟩ : ByteArray) (⟨#[100, 105, 118]⟩ : ByteArray) = false := rfl
theorem q_24_4 : eqS (⟨#[65]⟩ : ByteArray) (⟨#[109, 111, 100]⟩ : ByteArray) = false := rfl
theorem q_24_5 : eqS (⟨#[65]⟩ : ByteArray) (⟨#[109, 105, 110]⟩ : ByteArray) = false := rfl
theorem q_24_6 : eqS (⟨#[65]⟩ : ByteArray) (⟨#[109, 97, 120]⟩ : ByteArray) = false := rfl
theorem q_24_7 : eqS (⟨#[65]⟩ : ByteArray) (⟨#[110, 101, 103]⟩ : ByteArray) = false := rfl
theorem q_24_8 : eqS (⟨#[65]⟩ : ByteArray) (⟨#[97, 98, 115]⟩ : ByteArray) = false := rfl
theorem q_24_9 : eqS (⟨#[65]⟩ : ByteArray) (⟨#[115, 105, 103, 110]⟩ : ByteArray) = false := rfl
theorem q_24_10 : eqS (⟨#[65]⟩ : ByteArray) (⟨#[108, 116]⟩ : ByteArray) = false := rfl
theorem q_24_11 : eqS (⟨#[65]⟩ : ByteArray) (⟨#[108, 101]⟩ : ByteArray) = false := rfl
theorem q_24_12 : eqS (⟨#[65]⟩ : ByteArray) (⟨#[103, 116]⟩ : ByteArray) = false := rfl
theorem q_24_13 : eqS (⟨#[65]⟩ : ByteArray) (⟨#[103, 101]⟩ : ByteArray) = false := rfl
theorem q_24_14 : eqS (⟨#[65]⟩ : ByteArray) (⟨#[101, 113]⟩ : ByteArray) = false := rfl
theorem q_24_15 : eqS (⟨#[65]⟩ : ByteArray) (⟨#[110, 101]⟩ : ByteArray) = false := rfl
theorem q_24_16 : eqS (⟨#[65]⟩ : ByteArray) (⟨#[97, 110, 100]⟩ : ByteArray) = false := rfl
theorem q_24_17 : eqS (⟨#[65]⟩ : ByteArray) (⟨#[111, 114]⟩ : ByteArray) = false := rfl
theorem q_24_18 : eqS (⟨#[65]⟩ : ByteArray) (⟨#[120, 111, 114]⟩ : ByteArray) = false := rfl
theorem q_24_19 : eqS (⟨#[65]⟩ : ByteArray) (⟨#[110, 111, 116]⟩ : ByteArray) = false := rfl
theorem q_24_20 : eqS (⟨#[65]⟩ : ByteArray) (⟨#[115, 101, 108, 101, 99, 116]⟩ : ByteArray) = false := rfl
theorem q_24_21 : eqS (⟨#[65]⟩ : ByteArray) (⟨#[116, 111, 105, 110, 116]⟩ : ByteArray) = false := rfl
theorem q_24_22 : eqS (⟨#[65]⟩ : ByteArray) (⟨#[105, 110, 116]⟩ : ByteArray) = false := rfl
theorem q_24_23 : eqS (⟨#[65]⟩ : ByteArray) (⟨#[98, 111, 111, 108]⟩ : ByteArray) = false := rfl
theorem q_24_24 : eqS (⟨#[65]⟩ : ByteArray) (⟨#[65]⟩ : ByteArray) = true := rfl
theorem q_24_25 : eqS (⟨#[65]⟩ : ByteArray) (⟨#[]⟩ : ByteArray) = false := rfl
theorem q_25_0 : eqS (⟨#[]⟩ : ByteArray) (⟨#[97, 100, 100]⟩ : ByteArray) = false := rfl
theorem q_25_1 : eqS (⟨#[]⟩ : ByteArray) (⟨#[115, 117, 98]⟩ : ByteArray) = false := rfl
theorem q_25_2 : eqS (⟨#[]⟩ : ByteArray) (⟨#[109, 117, 108]⟩ : ByteArray) = false := rfl
theorem q_25_3 : eqS (⟨#[]⟩ : ByteArray) (⟨#[100, 105, 118]⟩ : ByteArray) = false := rfl
theorem q_25_4 : eqS (⟨#[]⟩ : ByteArray) (⟨#[109, 111, 100]⟩ : ByteArray) = false := rfl
theorem q_25_5 : eqS (⟨#[]⟩ : ByteArray) (⟨#[109, 105, 110]⟩ : ByteArray) = false := rfl
theorem q_25_6 : eqS (⟨#[]⟩ : ByteArray) (⟨#[109, 97, 120]⟩ : ByteArray) = false := rfl
theorem q_25_7 : eqS (⟨#[]⟩ : ByteArray) (⟨#[110, 101, 103]⟩ : ByteArray) = false := rfl
theorem q_25_8 : eqS (⟨#[]⟩ : ByteArray) (⟨#[97, 98, 115]⟩ : ByteArray) = false := rfl
theorem q_25_9 : eqS (⟨#[]⟩ : ByteArray) (⟨#[115, 105, 103, 110]⟩ : ByteArray) = false := rfl
theorem q_25_10 : eqS (⟨#[]⟩ : ByteArray) (⟨#[108, 116]⟩ : ByteArray) = false := rfl
theorem q_25_11 : eqS (⟨#[]⟩ : ByteArray) (⟨#[108, 101]⟩ : ByteArray) = false := rfl
theorem q_25_12 : eqS (⟨#[]⟩ : ByteArray) (⟨#[103, 116]⟩ : ByteArray) = false := rfl
theorem q_25_13 : eqS (⟨#[]⟩ : ByteArray) (⟨#[103, 101]⟩ : ByteArray) = false := rfl
theorem q_25_14 : eqS (⟨#[]⟩ : ByteArray) (⟨#[101, 113]⟩ : ByteArray) = false := rfl
theorem q_25_15 : eqS (⟨#[]⟩ : ByteArray) (⟨#[110, 101]⟩ : ByteArray) = false := rfl
theorem q_25_16 : eqS (⟨#[]⟩ : ByteArray) (⟨#[97, 110, 100]⟩ : ByteArray) = false := rfl
theorem q_25_17 : eqS (⟨#[]⟩ : ByteArray) (⟨#[111, 114]⟩ : ByteArray) = false := rfl
theorem q_25_18 : eqS (⟨#[]⟩ : ByteArray) (⟨#[120, 111, 114]⟩ : ByteArray) = false := rfl
theorem q_25_19 : eqS (⟨#[]⟩ : ByteArray) (⟨#[110, 111, 116]⟩ : ByteArray) = false := rfl
theorem q_25_20 : eqS (⟨#[]⟩ : ByteArray) (⟨#[115, 101, 108, 101, 99, 116]⟩ : ByteArray) = false := rfl
theorem q_25_21 : eqS (⟨#[]⟩ : ByteArray) (⟨#[116, 111, 105, 110, 116]⟩ : ByteArray) = false := rfl
theorem q_25_22 : eqS (⟨#[]⟩ : ByteArray) (⟨#[105, 110, 116]⟩ : ByteArray) = false := rfl
theorem q_25_23 : eqS (⟨#[]⟩ : ByteArray) (⟨#[98, 111, 111, 108]⟩ : ByteArray) = false := rfl
theorem q_25_24 : eqS (⟨#[]⟩ : ByteArray) (⟨#[65]⟩ : ByteArray) = false := rfl
theorem q_25_25 : eqS (⟨#[]⟩ : ByteArray) (⟨#[]⟩ : ByteArray) = true := rfl
attribute [go_sem] q_0_0 q_0_1 q_0_2 q_0_3 q_0_4 q_0_5 q_0_6 q_0_7 q_0_8 q_0_9 q_0_10 q_0_11 q_0_12 q_0_13 q_0_14 q_0_15 q_0_16 q_0_17 q_0_18 q_0_19 q_0_20 q_0_21 q_0_22 q_0_23 q_0_24 q_0_25 q_1_0 q_1_1 q_1_2 q_1_3 q_1_4 q_1_5 q_1_6 q_1_7 q_1_8 q_1_9 q_1_10 q_1_11 q_1_12 q_1_13 q_1_14 q_1_15 q_1_16 q_1_17 q_1_18 q_1_19 q_1_20 q_1_21 q_1_22 q_1_23 q_1_24 q_1_25 q_2_0 q_2_1 q_2_2 q_2_3 q_2_4 q_2_5 q_2_6 q_2_7 q_2_8 q_2_9 q_2_10 q_2_11 q_2_12 q_2_13 q_2_14 q_2_15 q_2_16 q_2_17 q_2_18 q_2_19 q_2_20 q_2_21 q_2_22 q_2_23 q_2_24 q_2_25 q_3_0 q_3_1 q_3_2 q_3_3 q_3_4 q_3_5 q_3_6 q_3_7 q_3_8 q_3_9 q_3_10 q_3_11 q_3_12 q_3_13 q_3_14 q_3_15 q_3_16 q_3_17 q_3_18 q_3_19 q_3_20 q_3_21 q_3_22 q_3_23 q_3_24 q_3_25 q_4_0 q_4_1 q_4_2 q_4_3 q_4_4 q_4_5 q_4_6 q_4_7 q_4_8 q_4_9 q_4_10 q_4_11 q_4_12 q_4_13 q_4_14 q_4_15 q_4_16 q_4_17 q_4_18 q_4_19 q_4_20 q_4_21 q_4_22 q_4_23 q_4_24 q_4_25 q_5_0 q_5_1 q_5_2 q_5_3 q_5_4 q_5_5 q_5_6 q_5_7 q_5_8 q_5_9 q_5_10 q_5_11 q_5_12 q_5_13 q_5_14 q_5_15 q_5_16 q_5_17 q_5_18 q_5_19 q_5_20 q_5_21 q_5_22 q_5_23 q_5_24 q_5_25 q_6_0 q_6_1 q_6_2 q_6_3 q_6_4 q_6_5 q_6_6 q_6_7 q_6_8 q_6_9 q_6_10 q_6_11 q_6_12 q_6_13 q_6_14 q_6_15 q_6_16 q_6_17 q_6_18 q_6_19 q_6_20 q_6_21 q_6_22 q_6_23 q_6_24 q_6_25 q_7_0 q_7_1 q_7_2 q_7_3 q_7_4 q_7_5 q_7_6 q_7_7 q_7_8 q_7_9 q_7_10 q_7_11 q_7_12 q_7_13 q_7_14 q_7_15 q_7_16 q_7_17 q_7_18 q_7_19 q_7_20 q_7_21 q_7_22 q_7_23 q_7_24 q_7_25 q_8_0 q_8_1 q_8_2 q_8_3 q_8_4 q_8_5 q_8_6 q_8_7 q_8_8 q_8_9 q_8_10 q_8_11 q_8_12 q_8_13 q_8_14 q_8_15 q_8_16 q_8_17 q_8_18 q_8_19 q_8_20 q_8_21 q_8_22 q_8_23 q_8_24 q_8_25 q_9_0 q_9_1 q_9_2 q_9_3 q_9_4 q_9_5 q_9_6 q_9_7 q_9_8 q_9_9 q_9_10 q_9_11 q_9_12 q_9_13 q_9_14 q_9_15 q_9_16 q_9_17 q_9_18 q_9_19 q_9_20 q_9_21 q_9_22 q_9_23 q_9_24 q_9_25 q_10_0 q_10_1 q_10_2 q_10_3 q_10_4 q_10_5 q_10_6 q_10_7 q_10_8 q_10_9 q_10_10 q_10_11 q_10_12 q_10_13 q_10_14 q_10_15 q_10_16 q_10_17 q_10_18 q_10_19 q_10_20 q_10_21 q_10_22 q_10_23 q_10_24 q_10_25 q_11_0 q_11_1 q_11_2 q_11_3 q_11_4 q_11_5 q_11_6 q_11_7 q_11_8 q_11_9 q_11_10 q_11_11 q_11_12 q_11_13 q_11_14 q_11_15 q_11_16 q_11_17 q_11_18 q_11_19 q_11_20 q_11_21 q_11_22 q_11_23 q_11_24 q_11_25 q_12_0 q_12_1 q_12_2 q_12_3 q_12_4 q_12_5 q_12_6 q_12_7 q_12_8 q_12_9 q_12_10 q_12_11 q_12_12 q_12_13 q_12_14 q_12_15 q_12_16 q_12_17 q_12_18 q_12_19 q_12_20 q_12_21 q_12_22 q_12_23 q_12_24 q_12_25 q_13_0 q_13_1 q_13_2 q_13_3 q_13_4 q_13_5 q_13_6 q_13_7 q_13_8 q_13_9 q_13_10 q_13_11 q_13_12 q_13_13 q_13_14 q_13_15 q_13_16 q_13_17 q_13_18 q_13_19 q_13_20 q_13_21 q_13_22 q_13_23 q_13_24 q_13_25 q_14_0 q_14_1 q_14_2 q_14_3 q_14_4 q_14_5 q_14_6 q_14_7 q_14_8 q_14_9 q_14_10 q_14_11 q_14_12 q_14_13 q_14_14 q_14_15 q_14_16 q_14_17 q_14_18 q_14_19 q_14_20 q_14_21 q_14_22 q_14_23 q_14_24 q_14_25 q_15_0 q_15_1 q_15_2 q_15_3 q_15_4 q_15_5 q_15_6 q_15_7 q_15_8 q_15_9 q_15_10 q_15_11 q_15_12 q_15_13 q_15_14 q_15_15 q_15_16 q_15_17 q_15_18 q_15_19 q_15_20 q_15_21 q_15_22 q_15_23 q_15_24 q_15_25 q_16_0 q_16_1 q_16_2 q_16_3 q_16_4 q_16_5 q_16_6 q_16_7 q_16_8 q_16_9 q_16_10 q_16_11 q_16_12 q_16_13 q_16_14 q_16_15 q_16_16 q_16_17 q_16_18 q_16_19 q_16_20 q_16_21 q_16_22 q_16_23 q_16_24 q_16_25 q_17_0 q_17_1 q_17_2 q_17_3 q_17_4 q_17_5 q_17_6 q_17_7 q_17_8 q_17_9 q_17_10 q_17_11 q_17_12 q_17_13 q_17_14 q_17_15 q_17_16 q_17_17 q_17_18 q_17_19 q_17_20 q_17_21 q_17_22 q_17_23 q_17_24 q_17_25 q_18_0 q_18_1 q_18_2 q_18_3 q_18_4 q_18_5 q_18_6 q_18_7 q_18_8 q_18_9 q_18_10 q_18_11 q_18_12 q_18_13 q_18_14 q_18_15 q_18_16 q_18_17 q_18_18 q_18_19 q_18_20 q_18_21 q_18_22 q_18_23 q_18_24 q_18_25 q_19_0 q_19_1 q_19_2 q_19_3 q_19_4 q_19_5 q_19_6 q_19_7 q_19_8 q_19_9 q_19_10 q_19_11 q_19_12 q_19_13 q_19_14 q_19_15 q_19_16 q_19_17 q_19_18 q_19_19 q_19_20 q_19_21 q_19_22 q_19_23 q_19_24 q_19_25 q_20_0 q_20_1 q_20_2 q_20_3 q_20_4 q_20_5 q_20_6 q_20_7 q_20_8 q_20_9 q_20_10 q_20_11 q_20_12 q_20_13 q_20_14 q_20_15 q_20_16 q_20_17 q_20_18 q_20_19 q_20_20 q_20_21 q_20_22 q_20_23 q_20_24 q_20_25 q_21_0 q_21_1 q_21_2 q_21_3 q_21_4 q_21_5 q_21_6 q_21_7 q_21_8 q_21_9 q_21_10 q_21_11 q_21_12 q_21_13 q_21_14 q_21_15 q_21_16 q_21_17 q_21_18 q_21_19 q_21_20 q_21_21 q_21_22 q_21_23 q_21_24 q_21_25 q_22_0 q_22_1 q_22_2 q_22_3 q_22_4 q_22_5 q_22_6 q_22_7 q_22_8 q_22_9 q_22_10 q_22_11 q_22_12 q_22_13 q_22_14 q_22_15 q_22_16 q_22_17 q_22_18 q_22_19 q_22_20 q_22_21 q_22_22 q_22_23 q_22_24 q_22_25 q_23_0 q_23_1 q_23_2 q_23_3 q_23_4 q_23_5 q_23_6 q_23_7 q_23_8 q_23_9 q_23_10 q_23_11 q_23_12 q_23_13 q_23_14 q_23_15 q_23_16 q_23_17 q_23_18 q_23_19 q_23_20 q_23_21 q_23_22 q_23_23 q_23_24 q_23_25 q_24_0 q_24_1 q_24_2 q_24_3 q_24_4 q_24_5 q_24_6 q_24_7 q_24_8 q_24_9 q_24_10 q_24_11 q_24_12 q_24_13 q_24_14 q_24_15 q_24_16 q_24_17 q_24_18 q_24_19 q_24_20 q_24_21 q_24_22 q_24_23 q_24_24 q_24_25 q_25_0 q_25_1 q_25_2 q_25_3 q_25_4 q_25_5 q_25_6 q_25_7 q_25_8 q_25_9 q_25_10 q_25_11 q_25_12 q_25_13 q_25_14 q_25_15 q_25_16 q_25_17 q_25_18 q_25_19 q_25_20 q_25_21 q_25_22 q_25_23 q_25_24 q_25_25
structure Rw where
  op : ByteArray
  ps : List ByteArray
  rs : ByteArray
instance : Inhabited Rw := ⟨⟨⟨#[]⟩, [], ⟨#[]⟩⟩⟩
def rowsL : List Rw := [⟨(⟨#[97, 100, 100]⟩ : ByteArray), [(⟨#[105, 110, 116]⟩ : ByteArray), (⟨#[105, 110, 116]⟩ : ByteArray)], (⟨#[105, 110, 116]⟩ : ByteArray)⟩, ⟨(⟨#[115, 117, 98]⟩ : ByteArray), [(⟨#[105, 110, 116]⟩ : ByteArray), (⟨#[105, 110, 116]⟩ : ByteArray)], (⟨#[105, 110, 116]⟩ : ByteArray)⟩, ⟨(⟨#[109, 117, 108]⟩ : ByteArray), [(⟨#[105, 110, 116]⟩ : ByteArray), (⟨#[105, 110, 116]⟩ : ByteArray)], (⟨#[105, 110, 116]⟩ : ByteArray)⟩, ⟨(⟨#[100, 105, 118]⟩ : ByteArray), [(⟨#[105, 110, 116]⟩ : ByteArray), (⟨#[105, 110, 116]⟩ : ByteArray)], (⟨#[105, 110, 116]⟩ : ByteArray)⟩, ⟨(⟨#[109, 111, 100]⟩ : ByteArray), [(⟨#[105, 110, 116]⟩ : ByteArray), (⟨#[105, 110, 116]⟩ : ByteArray)], (⟨#[105, 110, 116]⟩ : ByteArray)⟩, ⟨(⟨#[109, 105, 110]⟩ : ByteArray), [(⟨#[105, 110, 116]⟩ : ByteArray), (⟨#[105, 110, 116]⟩ : ByteArray)], (⟨#[105, 110, 116]⟩ : ByteArray)⟩, ⟨(⟨#[109, 97, 120]⟩ : ByteArray), [(⟨#[105, 110, 116]⟩ : ByteArray), (⟨#[105, 110, 116]⟩ : ByteArray)], (⟨#[105, 110, 116]⟩ : ByteArray)⟩, ⟨(⟨#[110, 101, 103]⟩ : ByteArray), [(⟨#[105, 110, 116]⟩ : ByteArray)], (⟨#[105, 110, 116]⟩ : ByteArray)⟩, ⟨(⟨#[97, 98, 115]⟩ : ByteArray), [(⟨#[105, 110, 116]⟩ : ByteArray)], (⟨#[105, 110, 116]⟩ : ByteArray)⟩, ⟨(⟨#[115, 105, 103, 110]⟩ : ByteArray), [(⟨#[105, 110, 116]⟩ : ByteArray)], (⟨#[105, 110, 116]⟩ : ByteArray)⟩, ⟨(⟨#[108, 116]⟩ : ByteArray), [(⟨#[105, 110, 116]⟩ : ByteArray), (⟨#[105, 110, 116]⟩ : ByteArray)], (⟨#[98, 111, 111, 108]⟩ : ByteArray)⟩, ⟨(⟨#[108, 101]⟩ : ByteArray), [(⟨#[105, 110, 116]⟩ : ByteArray), (⟨#[105, 110, 116]⟩ : ByteArray)], (⟨#[98, 111, 111, 108]⟩ : ByteArray)⟩, ⟨(⟨#[103, 116]⟩ : ByteArray), [(⟨#[105, 110, 116]⟩ : ByteArray), (⟨#[105, 110, 116]⟩ : ByteArray)], (⟨#[98, 111, 111, 108]⟩ : ByteArray)⟩, ⟨(⟨#[103, 101]⟩ : ByteArray), [(⟨#[105, 110, 116]⟩ : ByteArray), (⟨#[105, 110, 116]⟩ : ByteArray)], (⟨#[98, 111, 111, 108]⟩ : ByteArray)⟩, ⟨(⟨#[101, 113]⟩ : ByteArray), [(⟨#[65]⟩ : ByteArray), (⟨#[65]⟩ : ByteArray)], (⟨#[98, 111, 111, 108]⟩ : ByteArray)⟩, ⟨(⟨#[110, 101]⟩ : ByteArray), [(⟨#[65]⟩ : ByteArray), (⟨#[65]⟩ : ByteArray)], (⟨#[98, 111, 111, 108]⟩ : ByteArray)⟩, ⟨(⟨#[97, 110, 100]⟩ : ByteArray), [(⟨#[98, 111, 111, 108]⟩ : ByteArray), (⟨#[98, 111, 111, 108]⟩ : ByteArray)], (⟨#[98, 111, 111, 108]⟩ : ByteArray)⟩, ⟨(⟨#[111, 114]⟩ : ByteArray), [(⟨#[98, 111, 111, 108]⟩ : ByteArray), (⟨#[98, 111, 111, 108]⟩ : ByteArray)], (⟨#[98, 111, 111, 108]⟩ : ByteArray)⟩, ⟨(⟨#[120, 111, 114]⟩ : ByteArray), [(⟨#[98, 111, 111, 108]⟩ : ByteArray), (⟨#[98, 111, 111, 108]⟩ : ByteArray)], (⟨#[98, 111, 111, 108]⟩ : ByteArray)⟩, ⟨(⟨#[110, 111, 116]⟩ : ByteArray), [(⟨#[98, 111, 111, 108]⟩ : ByteArray)], (⟨#[98, 111, 111, 108]⟩ : ByteArray)⟩, ⟨(⟨#[115, 101, 108, 101, 99, 116]⟩ : ByteArray), [(⟨#[98, 111, 111, 108]⟩ : ByteArray), (⟨#[65]⟩ : ByteArray), (⟨#[65]⟩ : ByteArray)], (⟨#[65]⟩ : ByteArray)⟩, ⟨(⟨#[116, 111, 105, 110, 116]⟩ : ByteArray), [(⟨#[98, 111, 111, 108]⟩ : ByteArray)], (⟨#[105, 110, 116]⟩ : ByteArray)⟩]
def rowC (r : Rw) : List AV := [.lit (.string r.op), .sl true 1 (strs r.ps), .lit (.string r.rs)]
def rowCells : List AV := rowsL.flatMap rowC
theorem rowCells_len : rowCells.length = 66 := rfl
set_option maxHeartbeats 4000000 in
theorem rows_pc : PC Try.prog 29 [] (.agg rowCells) := by
  refine pc_of E0_ok mixed (fun _ => [0, 1, 2, 3, 4]) Try.func29 rfl (by kernel_rfl) (Nat.le_of_ble_eq_true rfl) ?_
  simp only [initF_cons, initF_nil, Nat.reduceAdd]
  refine t_name fun KF => ?_
  unfold E0
  repeat' (first
    | with_reducible refine t_seq fun K => ?_
    | with_reducible refine t_block ?_
    | with_reducible refine t_scope ?_
    | with_reducible refine t_label ?_
    | with_reducible refine t_skip ?_
    | with_reducible refine t_exit ?_
    | with_reducible refine t_ret ?_
    | with_reducible refine t_k ?_
    | (with_reducible refine t_gF ?_)
    | ((first | with_reducible refine t_kE ?_ | with_reducible refine t_kD ?_ | with_reducible refine t_gS ?_ | with_reducible refine t_kL ?_ | (with_reducible refine t_kLE ?_ ?_; rotate_left) | with_reducible refine t_region fun K => ?_ | with_reducible refine t_draw (by kernel_rfl) fun K => ?_); simp only [go_sem, Int.cast_ofNat_Int, Nat.reduceEqDiff, reduceIte, Nat.reduceAdd, Nat.reduceMul, Nat.reduceLeDiff, Nat.reduceSub, Nat.reduceLT, Nat.zero_lt_succ, Int.reduceToNat, Int.reduceAdd, Int.reduceSub, Int.reduceMul, Int.reduceNeg, Int.reduceLT, Int.reduceLE, Int.reduceEq, Int.reduceBEq, Int.reduceBNe, Nat.reduceBEq, List.reduceReplicate])
    | (with_reducible exact kp_nil)
    | (with_reducible exact Kp.refl _)
    | (with_reducible exact kp_to)
    | (with_reducible refine kp_cons ?_)
    | (with_reducible refine kp_arr ?_)
    | (with_reducible refine kp_app ?_)
    | ((with_reducible refine t_cond fun A B => ?_); simp only [go_sem, Int.cast_ofNat_Int, Nat.reduceEqDiff, reduceIte, Nat.reduceAdd, Nat.reduceMul, Nat.reduceLeDiff, Nat.reduceSub, Nat.reduceLT, Nat.zero_lt_succ, Int.reduceToNat, Int.reduceAdd, Int.reduceSub, Int.reduceMul, Int.reduceNeg, Int.reduceLT, Int.reduceLE, Int.reduceEq, Int.reduceBEq, Int.reduceBNe, Nat.reduceBEq, List.reduceReplicate]; first | (with_reducible refine A.h ?_) | (with_reducible refine B.h ?_) | refine And.intro (fun hc => A.h ?_) (fun hc => B.h ?_))
    | simp only [thenQ_n, thenQ_r, thenQ_e, blockQ_n, blockQ_r, blockQ_e, scopeQ_n, scopeQ_r, scopeQ_e, Nat.reduceEqDiff, reduceIte]
    | (with_reducible refine And.intro ?_ ?_)
    | with_reducible intro vr)
  all_goals try (intros; (try simp only [Bool.and_eq_true, Bool.or_eq_true, Bool.not_eq_true', decide_eq_true_eq, decide_eq_false_iff_not, beq_iff_eq, bne_iff_ne, ne_eq, inI64, List.length_append] at *) <;> omega)
  refine end_ret rfl ?_
  simp only [fin, go_sem, Int.cast_ofNat_Int, Nat.reduceEqDiff, reduceIte, Nat.reduceAdd, Nat.reduceMul, Nat.reduceLeDiff, Nat.reduceSub, Nat.reduceLT, Nat.zero_lt_succ, Int.reduceToNat, Int.reduceAdd, Int.reduceSub, Int.reduceMul, Int.reduceNeg, Int.reduceLT, Int.reduceLE, Int.reduceEq, Int.reduceBEq, Int.reduceBNe, Nat.reduceBEq, List.reduceReplicate]
  exact LeA.refl _
end Go.Proofs.Ytbmogpafhdbfdaa
