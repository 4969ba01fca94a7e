/- Apply. -/
import Derived.Test.YtbmogpafhdbfdaaEC
import Derived.Test.YtbmogpafhdbfdaaED

set_option linter.all false

namespace Go.Proofs.Ytbmogpafhdbfdaa
open Go Go.Fw


noncomputable def con20 : PCon Try.prog where
  f := 20
  c := fun
    | [.lit (.string op)] => some (True, typesV (typesS op))
    | _ => none
  ok := by
    intro args p r hc hp
    split at hc
    · cases hc; exact types_pc
    · cases hc
  fk := fk20
theorem con20_f : con20.f = 20 := rfl
theorem con20_c {op : ByteArray} : con20.c [.lit (.string op)] = some (True, typesV (typesS op)) := rfl
noncomputable def con13 : PCon Try.prog where
  f := 13
  c := fun
    | [.lit (.string op)] => some (True, typesV (typesS op))
    | _ => none
  ok := by
    intro args p r hc hp
    split at hc
    · cases hc; exact rtypes_pc
    · cases hc
  fk := fk13
theorem con13_f : con13.f = 13 := rfl
theorem con13_c {op : ByteArray} : con13.c [.lit (.string op)] = some (True, typesV (typesS op)) := rfl
theorem typesV_none : typesV none = .tup [.lit (.slice none 0 0), .lit (.string ⟨#[]⟩), .lit (.bool false)] := rfl
theorem typesV_row (i : Nat) : typesV (some (rowsL.getD i default)) = .tup [.sl false 1 (strs (psN i)), .lit (.string (rowsL.getD i default).rs), .lit (.bool true)] := rfl
def okB (i : Nat) (xs : List Int) : Bool := decide (xs.length = (psN i).length) && okA (psN i) xs
theorem okB_iff {i : Nat} {xs : List Int} : okB i xs = true ↔ okL i xs := by unfold okB okL; rw [Bool.and_eq_true, decide_eq_true_iff]
/-- What Apply returns. -/
def applyS (op : ByteArray) (xs : List Int) : Option Int := (rowIx op).bind fun i => if okB i xs = true then some (vS i xs) else none
def applyV (o : Option Int) : AV := match o with
  | some n => .tup [.lit (.int .i64 n), .lit (.bool true)]
  | none => .tup [.lit (.int .i64 0), .lit (.bool false)]
theorem okA_drop {ps : List ByteArray} {xs : List Int} {i : Nat} (h1 : i < ps.length) (h2 : i < xs.length) :
    okA (ps.drop i) (xs.drop i) = (vld (elT (ps.getD i ByteArray.empty)) (xs.getD i 0) && okA (ps.drop (i + 1)) (xs.drop (i + 1))) := by
  rw [getD_elem _ _ h1, getD_elem _ _ h2]
  conv => lhs; rw [List.drop_eq_getElem_cons h1, List.drop_eq_getElem_cons h2]
  rfl
theorem psN_len : ∀ i, i < 22 → (psN i).length ≤ 3 ∧ 1 ≤ (psN i).length ∧ ((psN i).length = 3 → i = 20) := by decide
theorem psN_el : ∀ i, i < 22 → ∀ p ∈ psN i, p = sInt ∨ p = sBool ∨ p = sA := by
  intro i hi
  have : i = 0 ∨ i = 1 ∨ i = 2 ∨ i = 3 ∨ i = 4 ∨ i = 5 ∨ i = 6 ∨ i = 7 ∨ i = 8 ∨ i = 9 ∨ i = 10 ∨ i = 11 ∨ i = 12 ∨ i = 13 ∨ i = 14 ∨ i = 15 ∨ i = 16 ∨ i = 17 ∨ i = 18 ∨ i = 19 ∨ i = 20 ∨ i = 21 := by omega
  rcases this with rfl | rfl | rfl | rfl | rfl | rfl | rfl | rfl | rfl | rfl | rfl | rfl | rfl | rfl | rfl | rfl | rfl | rfl | rfl | rfl | rfl | rfl
  all_goals (intro p hp; simp only [psN, rowsL, List.getD_cons_zero, List.getD_cons_succ, List.mem_cons, List.not_mem_nil, or_false] at hp; rcases hp with rfl | rfl | rfl)
  all_goals first | exact .inl rfl | exact .inr (.inl rfl) | exact .inr (.inr rfl)
noncomputable def E7 : Env := envOf (P := Try.prog) zer (fun _ => false) (fun _ => false) [con14, con20, con26] []
theorem E7_ok : EnvOk Try.prog E7 := envOk zer_ok
set_option maxHeartbeats 2000000 in
theorem apply_pc {op : ByteArray} {xs : List Int} : PC Try.prog 11 [.lit (.string op), .sl false 1 (ints .i64 xs)] (applyV (applyS op xs)) := by
  rcases ix_cases op with ⟨i0, hi0, -, hx, ht⟩ | ⟨hx, ht⟩
  rotate_left
  · have e : applyS op xs = none := by unfold applyS; rw [hx]; rfl
    rw [e]
    refine pc_of E7_ok mixed (fun _ => [0, 1, 4, 5, 6, 8, 9, 10, 11, 26, 27, 28, 29, 30, 39, 43]) Try.func11 rfl (by kernel_rfl) (Nat.le_of_ble_eq_true rfl) ?_
    simp only [initF_cons, initF_nil, Nat.reduceAdd]
    refine t_name fun KF => ?_
    unfold E7
    repeat' (first
      | with_reducible refine t_seq fun K => ?_
      | with_reducible refine t_block ?_
      | with_reducible refine t_scope ?_
      | with_reducible refine t_label ?_
      | with_reducible refine t_skip ?_
      | with_reducible refine t_exit ?_
      | with_reducible refine t_ret ?_
      | with_reducible refine t_k ?_
      | (with_reducible refine t_gF ?_)
      | ((first | with_reducible refine t_kE ?_ | with_reducible refine t_kD ?_ | with_reducible refine t_gS ?_ | with_reducible refine t_kL ?_ | (with_reducible refine t_kLE ?_ ?_; rotate_left) | with_reducible refine t_region fun K => ?_ | with_reducible refine t_draw (by kernel_rfl) fun K => ?_); simp only [go_sem, Int.cast_ofNat_Int, Nat.reduceEqDiff, reduceIte, Nat.reduceAdd, Nat.reduceMul, Nat.reduceLeDiff, Nat.reduceSub, Nat.reduceLT, Nat.zero_lt_succ, Int.reduceToNat, Int.reduceAdd, Int.reduceSub, Int.reduceMul, Int.reduceNeg, Int.reduceLT, Int.reduceLE, Int.reduceEq, Int.reduceBEq, Int.reduceBNe, Nat.reduceBEq, List.reduceReplicate, con14_f, con20_f, con26_f, con20_c, ht, typesV_none])
      | (with_reducible exact kp_nil)
      | (with_reducible exact Kp.refl _)
      | (with_reducible exact kp_to)
      | (with_reducible refine kp_cons ?_)
      | (with_reducible refine kp_arr ?_)
      | (with_reducible refine kp_app ?_)
      | ((with_reducible refine t_cond fun A B => ?_); simp only [go_sem, Int.cast_ofNat_Int, Nat.reduceEqDiff, reduceIte, Nat.reduceAdd, Nat.reduceMul, Nat.reduceLeDiff, Nat.reduceSub, Nat.reduceLT, Nat.zero_lt_succ, Int.reduceToNat, Int.reduceAdd, Int.reduceSub, Int.reduceMul, Int.reduceNeg, Int.reduceLT, Int.reduceLE, Int.reduceEq, Int.reduceBEq, Int.reduceBNe, Nat.reduceBEq, List.reduceReplicate, con14_f, con20_f, con26_f, con20_c, ht, typesV_none]; first | (with_reducible refine A.h ?_) | (with_reducible refine B.h ?_) | refine And.intro (fun hc => A.h ?_) (fun hc => B.h ?_))
      | simp only [thenQ_n, thenQ_r, thenQ_e, blockQ_n, blockQ_r, blockQ_e, scopeQ_n, scopeQ_r, scopeQ_e, Nat.reduceEqDiff, reduceIte]
      | (with_reducible refine And.intro ?_ ?_)
      | with_reducible intro vr)
    refine end_ret rfl ?_
    simp only [fin, go_sem, Int.cast_ofNat_Int, Nat.reduceEqDiff, reduceIte, Nat.reduceAdd, Nat.reduceMul, Nat.reduceLeDiff, Nat.reduceSub, Nat.reduceLT, Nat.zero_lt_succ, Int.reduceToNat, Int.reduceAdd, Int.reduceSub, Int.reduceMul, Int.reduceNeg, Int.reduceLT, Int.reduceLE, Int.reduceEq, Int.reduceBEq, Int.reduceBNe, Nat.reduceBEq, List.reduceReplicate, applyV]
    exact LeA.refl _
  have hl := psN_len i0 hi0
  have hT := typesV_row i0
  by_cases hn : xs.length = (psN i0).length
  rotate_left
  · have e : applyS op xs = none := by unfold applyS; rw [hx]; simp [okB, hn]
    have g1 : ((xs.length : Int) != ((psN i0).length : Int)) = true := by rw [bne_iff_ne]; omega
    rw [e]
    refine pc_of E7_ok mixed (fun _ => [0, 1, 4, 5, 6, 8, 9, 10, 11, 26, 27, 28, 29, 30, 39, 43]) Try.func11 rfl (by kernel_rfl) (Nat.le_of_ble_eq_true rfl) ?_
    simp only [initF_cons, initF_nil, Nat.reduceAdd]
    refine t_name fun KF => ?_
    unfold E7
    repeat' (first
      | with_reducible refine t_seq fun K => ?_
      | with_reducible refine t_block ?_
      | with_reducible refine t_scope ?_
      | with_reducible refine t_label ?_
      | with_reducible refine t_skip ?_
      | with_reducible refine t_exit ?_
      | with_reducible refine t_ret ?_
      | with_reducible refine t_k ?_
      | (with_reducible refine t_gF ?_)
      | ((first | with_reducible refine t_kE ?_ | with_reducible refine t_kD ?_ | with_reducible refine t_gS ?_ | with_reducible refine t_kL ?_ | (with_reducible refine t_kLE ?_ ?_; rotate_left) | with_reducible refine t_region fun K => ?_ | with_reducible refine t_draw (by kernel_rfl) fun K => ?_); simp only [go_sem, Int.cast_ofNat_Int, Nat.reduceEqDiff, reduceIte, Nat.reduceAdd, Nat.reduceMul, Nat.reduceLeDiff, Nat.reduceSub, Nat.reduceLT, Nat.zero_lt_succ, Int.reduceToNat, Int.reduceAdd, Int.reduceSub, Int.reduceMul, Int.reduceNeg, Int.reduceLT, Int.reduceLE, Int.reduceEq, Int.reduceBEq, Int.reduceBNe, Nat.reduceBEq, List.reduceReplicate, con14_f, con20_f, con26_f, con20_c, ht, hT, g1, pickB])
      | (with_reducible exact kp_nil)
      | (with_reducible exact Kp.refl _)
      | (with_reducible exact kp_to)
      | (with_reducible refine kp_cons ?_)
      | (with_reducible refine kp_arr ?_)
      | (with_reducible refine kp_app ?_)
      | ((with_reducible refine t_cond fun A B => ?_); simp only [go_sem, Int.cast_ofNat_Int, Nat.reduceEqDiff, reduceIte, Nat.reduceAdd, Nat.reduceMul, Nat.reduceLeDiff, Nat.reduceSub, Nat.reduceLT, Nat.zero_lt_succ, Int.reduceToNat, Int.reduceAdd, Int.reduceSub, Int.reduceMul, Int.reduceNeg, Int.reduceLT, Int.reduceLE, Int.reduceEq, Int.reduceBEq, Int.reduceBNe, Nat.reduceBEq, List.reduceReplicate, con14_f, con20_f, con26_f, con20_c, ht, hT, g1, pickB]; first | (with_reducible refine A.h ?_) | (with_reducible refine B.h ?_) | refine And.intro (fun hc => A.h ?_) (fun hc => B.h ?_))
      | simp only [thenQ_n, thenQ_r, thenQ_e, blockQ_n, blockQ_r, blockQ_e, scopeQ_n, scopeQ_r, scopeQ_e, Nat.reduceEqDiff, reduceIte]
      | (with_reducible refine And.intro ?_ ?_)
      | with_reducible intro vr)
    all_goals try (intros; (try simp only [Bool.and_eq_true, Bool.or_eq_true, Bool.not_eq_true', decide_eq_true_eq, decide_eq_false_iff_not, beq_iff_eq, bne_iff_ne, ne_eq, inI64, List.length_append] at *) <;> omega)
    refine end_ret rfl ?_
    simp only [fin, go_sem, Int.cast_ofNat_Int, Nat.reduceEqDiff, reduceIte, Nat.reduceAdd, Nat.reduceMul, Nat.reduceLeDiff, Nat.reduceSub, Nat.reduceLT, Nat.zero_lt_succ, Int.reduceToNat, Int.reduceAdd, Int.reduceSub, Int.reduceMul, Int.reduceNeg, Int.reduceLT, Int.reduceLE, Int.reduceEq, Int.reduceBEq, Int.reduceBNe, Nat.reduceBEq, List.reduceReplicate, applyV]
    exact LeA.refl _
  have g1 : ((xs.length : Int) != ((psN i0).length : Int)) = false := by rw [bne_eq_false_iff_eq]; omega
  have hR : applyS op xs = if okA (psN i0) xs = true then some (vS i0 xs) else none := by
    unfold applyS
    rw [hx]
    simp [okB, hn]
  have hL : okA (psN i0) xs = true → okL i0 xs := fun h => ⟨hn, h⟩
  rw [hR]
  clear hR
  generalize hps : psN i0 = ps at *
  clear hps
  refine pc_of E7_ok mixed (fun _ => [0, 1, 4, 5, 6, 8, 9, 10, 11, 26, 27, 28, 29, 30, 39, 43]) Try.func11 rfl (by kernel_rfl) (Nat.le_of_ble_eq_true rfl) ?_
  simp only [initF_cons, initF_nil, Nat.reduceAdd]
  refine t_name fun KF => ?_
  unfold E7
  repeat' (first
    | with_reducible refine t_seq fun K => ?_
    | with_reducible refine t_block ?_
    | with_reducible refine t_scope ?_
    | with_reducible refine t_label ?_
    | with_reducible refine t_skip ?_
    | with_reducible refine t_exit ?_
    | with_reducible refine t_ret ?_
    | with_reducible refine t_k ?_
    | (with_reducible refine t_gF ?_)
    | ((first | with_reducible refine t_kE ?_ | with_reducible refine t_kD ?_ | with_reducible refine t_gS ?_ | with_reducible refine t_kL ?_ | (with_reducible refine t_kLE ?_ ?_; rotate_left) | with_reducible refine t_region fun K => ?_ | with_reducible refine t_draw (by kernel_rfl) fun K => ?_); simp only [go_sem, Int.cast_ofNat_Int, Nat.reduceEqDiff, reduceIte, Nat.reduceAdd, Nat.reduceMul, Nat.reduceLeDiff, Nat.reduceSub, Nat.reduceLT, Nat.zero_lt_succ, Int.reduceToNat, Int.reduceAdd, Int.reduceSub, Int.reduceMul, Int.reduceNeg, Int.reduceLT, Int.reduceLE, Int.reduceEq, Int.reduceBEq, Int.reduceBNe, Nat.reduceBEq, List.reduceReplicate, con14_f, con20_f, con26_f, con20_c, ht, hT, g1, pickB])
    | (with_reducible exact kp_nil)
    | (with_reducible exact Kp.refl _)
    | (with_reducible exact kp_to)
    | (with_reducible refine kp_cons ?_)
    | (with_reducible refine kp_arr ?_)
    | (with_reducible refine kp_app ?_)
    | ((with_reducible refine t_cond fun A B => ?_); simp only [go_sem, Int.cast_ofNat_Int, Nat.reduceEqDiff, reduceIte, Nat.reduceAdd, Nat.reduceMul, Nat.reduceLeDiff, Nat.reduceSub, Nat.reduceLT, Nat.zero_lt_succ, Int.reduceToNat, Int.reduceAdd, Int.reduceSub, Int.reduceMul, Int.reduceNeg, Int.reduceLT, Int.reduceLE, Int.reduceEq, Int.reduceBEq, Int.reduceBNe, Nat.reduceBEq, List.reduceReplicate, con14_f, con20_f, con26_f, con20_c, ht, hT, g1, pickB]; first | (with_reducible refine A.h ?_) | (with_reducible refine B.h ?_) | refine And.intro (fun hc => A.h ?_) (fun hc => B.h ?_))
    | simp only [thenQ_n, thenQ_r, thenQ_e, blockQ_n, blockQ_r, blockQ_e, scopeQ_n, scopeQ_r, scopeQ_e, Nat.reduceEqDiff, reduceIte]
    | (with_reducible refine And.intro ?_ ?_)
    | with_reducible intro vr)
  all_goals try (intros; (try simp only [Bool.and_eq_true, Bool.or_eq_true, Bool.not_eq_true', decide_eq_true_eq, decide_eq_false_iff_not, beq_iff_eq, bne_iff_ne, ne_eq, inI64, List.length_append] at *) <;> omega)
  refine t_loop (ι := { i : Nat // i ≤ xs.length ∧ okA (ps.drop i) (xs.drop i) = okA ps xs }) (fun i => ⟨upd (upd (upd (upd (upd (upd topF 29 (.lit (.int .i64 i.1))) 28 (.lit (.int .i64 xs.length))) 27 (.sl false 1 (ints .i64 xs))) 6 (.sl false 1 (strs ps))) 1 (.sl false 1 (ints .i64 xs))) 0 (.lit (.string op)), []⟩) (fun i => xs.length - i.1) ⟨0, by omega, rfl⟩ ?_ ?_
  · skip
    (refine Le.frame ?_; repeat' (first | exact leF_top _ | (with_reducible refine leF_sl ?_ ?_) | (refine leF_upd (LeR.of_eq ?_) ?_))) <;> (try (simp only [go_sem, Int.cast_ofNat_Int, Nat.reduceEqDiff, reduceIte, Nat.reduceAdd, Nat.reduceMul, Nat.reduceLeDiff, Nat.reduceSub, Nat.reduceLT, Nat.zero_lt_succ, Int.reduceToNat, Int.reduceAdd, Int.reduceSub, Int.reduceMul, Int.reduceNeg, Int.reduceLT, Int.reduceLE, Int.reduceEq, Int.reduceBEq, Int.reduceBNe, Nat.reduceBEq, List.reduceReplicate]; try rfl))
  rintro ⟨i, hi, hF⟩ K0
  rcases Nat.lt_or_ge i xs.length with hc | hc
  · have g2 : decide ((i : Int) < (xs.length : Int)) = true := decide_eq_true (by omega)
    have hc' : i < ps.length := by omega
    have e1 := ints_getD .i64 xs i hc
    have e2 := strs_getD ps i hc'
    rw [okA_drop hc' hc] at hF
    generalize ps.getD i ByteArray.empty = p at *
    generalize xs.getD i 0 = x at *
    by_cases hA : eqS p ⟨#[65]⟩ = true
    · have hel : elT p = ⟨#[105, 110, 116]⟩ := by unfold elT sA sInt; rw [if_pos hA]
      rw [hel] at hF
      cases hv : vld ⟨#[105, 110, 116]⟩ x with
      | true =>
        rw [hv, Bool.true_and] at hF
        repeat' (first
          | with_reducible refine t_seq fun K => ?_
          | with_reducible refine t_block ?_
          | with_reducible refine t_scope ?_
          | with_reducible refine t_label ?_
          | with_reducible refine t_skip ?_
          | with_reducible refine t_exit ?_
          | with_reducible refine t_ret ?_
          | with_reducible refine t_k ?_
          | (with_reducible refine t_gF ?_)
          | ((first | with_reducible refine t_kE ?_ | with_reducible refine t_kD ?_ | with_reducible refine t_gS ?_ | with_reducible refine t_kL ?_ | (with_reducible refine t_kLE ?_ ?_; rotate_left) | with_reducible refine t_region fun K => ?_ | with_reducible refine t_draw (by kernel_rfl) fun K => ?_); simp only [go_sem, Int.cast_ofNat_Int, Nat.reduceEqDiff, reduceIte, Nat.reduceAdd, Nat.reduceMul, Nat.reduceLeDiff, Nat.reduceSub, Nat.reduceLT, Nat.zero_lt_succ, Int.reduceToNat, Int.reduceAdd, Int.reduceSub, Int.reduceMul, Int.reduceNeg, Int.reduceLT, Int.reduceLE, Int.reduceEq, Int.reduceBEq, Int.reduceBNe, Nat.reduceBEq, List.reduceReplicate, g2, Int.toNat_natCast, e1, e2, hA, hv, con14_f, con20_f, con26_f, con14_c])
          | (with_reducible exact kp_nil)
          | (with_reducible exact Kp.refl _)
          | (with_reducible exact kp_to)
          | (with_reducible refine kp_cons ?_)
          | (with_reducible refine kp_arr ?_)
          | (with_reducible refine kp_app ?_)
          | ((with_reducible refine t_cond fun A B => ?_); simp only [go_sem, Int.cast_ofNat_Int, Nat.reduceEqDiff, reduceIte, Nat.reduceAdd, Nat.reduceMul, Nat.reduceLeDiff, Nat.reduceSub, Nat.reduceLT, Nat.zero_lt_succ, Int.reduceToNat, Int.reduceAdd, Int.reduceSub, Int.reduceMul, Int.reduceNeg, Int.reduceLT, Int.reduceLE, Int.reduceEq, Int.reduceBEq, Int.reduceBNe, Nat.reduceBEq, List.reduceReplicate, g2, Int.toNat_natCast, e1, e2, hA, hv, con14_f, con20_f, con26_f, con14_c]; first | (with_reducible refine A.h ?_) | (with_reducible refine B.h ?_) | refine And.intro (fun hc => A.h ?_) (fun hc => B.h ?_))
          | simp only [thenQ_n, thenQ_r, thenQ_e, blockQ_n, blockQ_r, blockQ_e, scopeQ_n, scopeQ_r, scopeQ_e, Nat.reduceEqDiff, reduceIte]
          | (with_reducible refine And.intro ?_ ?_)
          | with_reducible intro vr)
        all_goals try (intros; (try simp only [Bool.and_eq_true, Bool.or_eq_true, Bool.not_eq_true', decide_eq_true_eq, decide_eq_false_iff_not, beq_iff_eq, bne_iff_ne, ne_eq, inI64, List.length_append] at *) <;> omega)
        refine ⟨⟨i + 1, by omega, hF⟩, by simp only; omega, ?_⟩
        (refine Le.frame ?_; repeat' (first | exact leF_top _ | (with_reducible refine leF_sl ?_ ?_) | (refine leF_upd (LeR.of_eq ?_) ?_))) <;> (try (simp only [go_sem, Int.cast_ofNat_Int, Nat.reduceEqDiff, reduceIte, Nat.reduceAdd, Nat.reduceMul, Nat.reduceLeDiff, Nat.reduceSub, Nat.reduceLT, Nat.zero_lt_succ, Int.reduceToNat, Int.reduceAdd, Int.reduceSub, Int.reduceMul, Int.reduceNeg, Int.reduceLT, Int.reduceLE, Int.reduceEq, Int.reduceBEq, Int.reduceBNe, Nat.reduceBEq, List.reduceReplicate]; try rfl))
      | false =>
        rw [hv, Bool.false_and] at hF
        have hF2 : okA ps xs = false := hF.symm
        repeat' (first
          | with_reducible refine t_seq fun K => ?_
          | with_reducible refine t_block ?_
          | with_reducible refine t_scope ?_
          | with_reducible refine t_label ?_
          | with_reducible refine t_skip ?_
          | with_reducible refine t_exit ?_
          | with_reducible refine t_ret ?_
          | with_reducible refine t_k ?_
          | (with_reducible refine t_gF ?_)
          | ((first | with_reducible refine t_kE ?_ | with_reducible refine t_kD ?_ | with_reducible refine t_gS ?_ | with_reducible refine t_kL ?_ | (with_reducible refine t_kLE ?_ ?_; rotate_left) | with_reducible refine t_region fun K => ?_ | with_reducible refine t_draw (by kernel_rfl) fun K => ?_); simp only [go_sem, Int.cast_ofNat_Int, Nat.reduceEqDiff, reduceIte, Nat.reduceAdd, Nat.reduceMul, Nat.reduceLeDiff, Nat.reduceSub, Nat.reduceLT, Nat.zero_lt_succ, Int.reduceToNat, Int.reduceAdd, Int.reduceSub, Int.reduceMul, Int.reduceNeg, Int.reduceLT, Int.reduceLE, Int.reduceEq, Int.reduceBEq, Int.reduceBNe, Nat.reduceBEq, List.reduceReplicate, g2, Int.toNat_natCast, e1, e2, hA, hv, con14_f, con20_f, con26_f, con14_c])
          | (with_reducible exact kp_nil)
          | (with_reducible exact Kp.refl _)
          | (with_reducible exact kp_to)
          | (with_reducible refine kp_cons ?_)
          | (with_reducible refine kp_arr ?_)
          | (with_reducible refine kp_app ?_)
          | ((with_reducible refine t_cond fun A B => ?_); simp only [go_sem, Int.cast_ofNat_Int, Nat.reduceEqDiff, reduceIte, Nat.reduceAdd, Nat.reduceMul, Nat.reduceLeDiff, Nat.reduceSub, Nat.reduceLT, Nat.zero_lt_succ, Int.reduceToNat, Int.reduceAdd, Int.reduceSub, Int.reduceMul, Int.reduceNeg, Int.reduceLT, Int.reduceLE, Int.reduceEq, Int.reduceBEq, Int.reduceBNe, Nat.reduceBEq, List.reduceReplicate, g2, Int.toNat_natCast, e1, e2, hA, hv, con14_f, con20_f, con26_f, con14_c]; first | (with_reducible refine A.h ?_) | (with_reducible refine B.h ?_) | refine And.intro (fun hc => A.h ?_) (fun hc => B.h ?_))
          | simp only [thenQ_n, thenQ_r, thenQ_e, blockQ_n, blockQ_r, blockQ_e, scopeQ_n, scopeQ_r, scopeQ_e, Nat.reduceEqDiff, reduceIte]
          | (with_reducible refine And.intro ?_ ?_)
          | with_reducible intro vr)
        all_goals try (intros; (try simp only [Bool.and_eq_true, Bool.or_eq_true, Bool.not_eq_true', decide_eq_true_eq, decide_eq_false_iff_not, beq_iff_eq, bne_iff_ne, ne_eq, inI64, List.length_append] at *) <;> omega)
        refine end_ret rfl ?_
        simp only [fin, go_sem, Int.cast_ofNat_Int, Nat.reduceEqDiff, reduceIte, Nat.reduceAdd, Nat.reduceMul, Nat.reduceLeDiff, Nat.reduceSub, Nat.reduceLT, Nat.zero_lt_succ, Int.reduceToNat, Int.reduceAdd, Int.reduceSub, Int.reduceMul, Int.reduceNeg, Int.reduceLT, Int.reduceLE, Int.reduceEq, Int.reduceBEq, Int.reduceBNe, Nat.reduceBEq, List.reduceReplicate, applyV, hF2, Bool.false_eq_true]
        exact LeA.refl _
    · have hA' : eqS p ⟨#[65]⟩ = false := by simpa using hA
      have hel : elT p = p := by unfold elT sA; rw [if_neg hA]
      rw [hel] at hF
      cases hv : vld p x with
      | true =>
        rw [hv, Bool.true_and] at hF
        repeat' (first
          | with_reducible refine t_seq fun K => ?_
          | with_reducible refine t_block ?_
          | with_reducible refine t_scope ?_
          | with_reducible refine t_label ?_
          | with_reducible refine t_skip ?_
          | with_reducible refine t_exit ?_
          | with_reducible refine t_ret ?_
          | with_reducible refine t_k ?_
          | (with_reducible refine t_gF ?_)
          | ((first | with_reducible refine t_kE ?_ | with_reducible refine t_kD ?_ | with_reducible refine t_gS ?_ | with_reducible refine t_kL ?_ | (with_reducible refine t_kLE ?_ ?_; rotate_left) | with_reducible refine t_region fun K => ?_ | with_reducible refine t_draw (by kernel_rfl) fun K => ?_); simp only [go_sem, Int.cast_ofNat_Int, Nat.reduceEqDiff, reduceIte, Nat.reduceAdd, Nat.reduceMul, Nat.reduceLeDiff, Nat.reduceSub, Nat.reduceLT, Nat.zero_lt_succ, Int.reduceToNat, Int.reduceAdd, Int.reduceSub, Int.reduceMul, Int.reduceNeg, Int.reduceLT, Int.reduceLE, Int.reduceEq, Int.reduceBEq, Int.reduceBNe, Nat.reduceBEq, List.reduceReplicate, g2, Int.toNat_natCast, e1, e2, hA', hv, con14_f, con20_f, con26_f, con14_c])
          | (with_reducible exact kp_nil)
          | (with_reducible exact Kp.refl _)
          | (with_reducible exact kp_to)
          | (with_reducible refine kp_cons ?_)
          | (with_reducible refine kp_arr ?_)
          | (with_reducible refine kp_app ?_)
          | ((with_reducible refine t_cond fun A B => ?_); simp only [go_sem, Int.cast_ofNat_Int, Nat.reduceEqDiff, reduceIte, Nat.reduceAdd, Nat.reduceMul, Nat.reduceLeDiff, Nat.reduceSub, Nat.reduceLT, Nat.zero_lt_succ, Int.reduceToNat, Int.reduceAdd, Int.reduceSub, Int.reduceMul, Int.reduceNeg, Int.reduceLT, Int.reduceLE, Int.reduceEq, Int.reduceBEq, Int.reduceBNe, Nat.reduceBEq, List.reduceReplicate, g2, Int.toNat_natCast, e1, e2, hA', hv, con14_f, con20_f, con26_f, con14_c]; first | (with_reducible refine A.h ?_) | (with_reducible refine B.h ?_) | refine And.intro (fun hc => A.h ?_) (fun hc => B.h ?_))
          | simp only [thenQ_n, thenQ_r, thenQ_e, blockQ_n, blockQ_r, blockQ_e, scopeQ_n, scopeQ_r, scopeQ_e, Nat.reduceEqDiff, reduceIte]
          | (with_reducible refine And.intro ?_ ?_)
          | with_reducible intro vr)
        all_goals try (intros; (try simp only [Bool.and_eq_true, Bool.or_eq_true, Bool.not_eq_true', decide_eq_true_eq, decide_eq_false_iff_not, beq_iff_eq, bne_iff_ne, ne_eq, inI64, List.length_append] at *) <;> omega)
        refine ⟨⟨i + 1, by omega, hF⟩, by simp only; omega, ?_⟩
        (refine Le.frame ?_; repeat' (first | exact leF_top _ | (with_reducible refine leF_sl ?_ ?_) | (refine leF_upd (LeR.of_eq ?_) ?_))) <;> (try (simp only [go_sem, Int.cast_ofNat_Int, Nat.reduceEqDiff, reduceIte, Nat.reduceAdd, Nat.reduceMul, Nat.reduceLeDiff, Nat.reduceSub, Nat.reduceLT, Nat.zero_lt_succ, Int.reduceToNat, Int.reduceAdd, Int.reduceSub, Int.reduceMul, Int.reduceNeg, Int.reduceLT, Int.reduceLE, Int.reduceEq, Int.reduceBEq, Int.reduceBNe, Nat.reduceBEq, List.reduceReplicate]; try rfl))
      | false =>
        rw [hv, Bool.false_and] at hF
        have hF2 : okA ps xs = false := hF.symm
        repeat' (first
          | with_reducible refine t_seq fun K => ?_
          | with_reducible refine t_block ?_
          | with_reducible refine t_scope ?_
          | with_reducible refine t_label ?_
          | with_reducible refine t_skip ?_
          | with_reducible refine t_exit ?_
          | with_reducible refine t_ret ?_
          | with_reducible refine t_k ?_
          | (with_reducible refine t_gF ?_)
          | ((first | with_reducible refine t_kE ?_ | with_reducible refine t_kD ?_ | with_reducible refine t_gS ?_ | with_reducible refine t_kL ?_ | (with_reducible refine t_kLE ?_ ?_; rotate_left) | with_reducible refine t_region fun K => ?_ | with_reducible refine t_draw (by kernel_rfl) fun K => ?_); simp only [go_sem, Int.cast_ofNat_Int, Nat.reduceEqDiff, reduceIte, Nat.reduceAdd, Nat.reduceMul, Nat.reduceLeDiff, Nat.reduceSub, Nat.reduceLT, Nat.zero_lt_succ, Int.reduceToNat, Int.reduceAdd, Int.reduceSub, Int.reduceMul, Int.reduceNeg, Int.reduceLT, Int.reduceLE, Int.reduceEq, Int.reduceBEq, Int.reduceBNe, Nat.reduceBEq, List.reduceReplicate, g2, Int.toNat_natCast, e1, e2, hA', hv, con14_f, con20_f, con26_f, con14_c])
          | (with_reducible exact kp_nil)
          | (with_reducible exact Kp.refl _)
          | (with_reducible exact kp_to)
          | (with_reducible refine kp_cons ?_)
          | (with_reducible refine kp_arr ?_)
          | (with_reducible refine kp_app ?_)
          | ((with_reducible refine t_cond fun A B => ?_); simp only [go_sem, Int.cast_ofNat_Int, Nat.reduceEqDiff, reduceIte, Nat.reduceAdd, Nat.reduceMul, Nat.reduceLeDiff, Nat.reduceSub, Nat.reduceLT, Nat.zero_lt_succ, Int.reduceToNat, Int.reduceAdd, Int.reduceSub, Int.reduceMul, Int.reduceNeg, Int.reduceLT, Int.reduceLE, Int.reduceEq, Int.reduceBEq, Int.reduceBNe, Nat.reduceBEq, List.reduceReplicate, g2, Int.toNat_natCast, e1, e2, hA', hv, con14_f, con20_f, con26_f, con14_c]; first | (with_reducible refine A.h ?_) | (with_reducible refine B.h ?_) | refine And.intro (fun hc => A.h ?_) (fun hc => B.h ?_))
          | simp only [thenQ_n, thenQ_r, thenQ_e, blockQ_n, blockQ_r, blockQ_e, scopeQ_n, scopeQ_r, scopeQ_e, Nat.reduceEqDiff, reduceIte]
          | (with_reducible refine And.intro ?_ ?_)
          | with_reducible intro vr)
        all_goals try (intros; (try simp only [Bool.and_eq_true, Bool.or_eq_true, Bool.not_eq_true', decide_eq_true_eq, decide_eq_false_iff_not, beq_iff_eq, bne_iff_ne, ne_eq, inI64, List.length_append] at *) <;> omega)
        refine end_ret rfl ?_
        simp only [fin, go_sem, Int.cast_ofNat_Int, Nat.reduceEqDiff, reduceIte, Nat.reduceAdd, Nat.reduceMul, Nat.reduceLeDiff, Nat.reduceSub, Nat.reduceLT, Nat.zero_lt_succ, Int.reduceToNat, Int.reduceAdd, Int.reduceSub, Int.reduceMul, Int.reduceNeg, Int.reduceLT, Int.reduceLE, Int.reduceEq, Int.reduceBEq, Int.reduceBNe, Nat.reduceBEq, List.reduceReplicate, applyV, hF2, Bool.false_eq_true]
        exact LeA.refl _
  · have g2 : decide ((i : Int) < (xs.length : Int)) = false := decide_eq_false (by omega)
    have : i = xs.length := by omega
    subst this
    have hF' : okA ps xs = true := by
      rw [← hF, List.drop_eq_nil_of_le (by omega : ps.length ≤ xs.length)]; rfl
    repeat' (first
      | with_reducible refine t_seq fun K => ?_
      | with_reducible refine t_block ?_
      | with_reducible refine t_scope ?_
      | with_reducible refine t_label ?_
      | with_reducible refine t_skip ?_
      | with_reducible refine t_exit ?_
      | with_reducible refine t_ret ?_
      | with_reducible refine t_k ?_
      | (with_reducible refine t_gF ?_)
      | ((first | with_reducible refine t_kE ?_ | with_reducible refine t_kD ?_ | with_reducible refine t_gS ?_ | with_reducible refine t_kL ?_ | (with_reducible refine t_kLE ?_ ?_; rotate_left) | with_reducible refine t_region fun K => ?_ | with_reducible refine t_draw (by kernel_rfl) fun K => ?_); simp only [go_sem, Int.cast_ofNat_Int, Nat.reduceEqDiff, reduceIte, Nat.reduceAdd, Nat.reduceMul, Nat.reduceLeDiff, Nat.reduceSub, Nat.reduceLT, Nat.zero_lt_succ, Int.reduceToNat, Int.reduceAdd, Int.reduceSub, Int.reduceMul, Int.reduceNeg, Int.reduceLT, Int.reduceLE, Int.reduceEq, Int.reduceBEq, Int.reduceBNe, Nat.reduceBEq, List.reduceReplicate, g2, con14_f, con20_f, con26_f, con26_c, hx, slK_sl, Option.bind_some, Option.map_some])
      | (with_reducible exact kp_nil)
      | (with_reducible exact Kp.refl _)
      | (with_reducible exact kp_to)
      | (with_reducible refine kp_cons ?_)
      | (with_reducible refine kp_arr ?_)
      | (with_reducible refine kp_app ?_)
      | ((with_reducible refine t_cond fun A B => ?_); simp only [go_sem, Int.cast_ofNat_Int, Nat.reduceEqDiff, reduceIte, Nat.reduceAdd, Nat.reduceMul, Nat.reduceLeDiff, Nat.reduceSub, Nat.reduceLT, Nat.zero_lt_succ, Int.reduceToNat, Int.reduceAdd, Int.reduceSub, Int.reduceMul, Int.reduceNeg, Int.reduceLT, Int.reduceLE, Int.reduceEq, Int.reduceBEq, Int.reduceBNe, Nat.reduceBEq, List.reduceReplicate, g2, con14_f, con20_f, con26_f, con26_c, hx, slK_sl, Option.bind_some, Option.map_some]; first | (with_reducible refine A.h ?_) | (with_reducible refine B.h ?_) | refine And.intro (fun hc => A.h ?_) (fun hc => B.h ?_))
      | simp only [thenQ_n, thenQ_r, thenQ_e, blockQ_n, blockQ_r, blockQ_e, scopeQ_n, scopeQ_r, scopeQ_e, Nat.reduceEqDiff, reduceIte]
      | (with_reducible refine And.intro ?_ ?_)
      | with_reducible intro vr)
    all_goals try (intros; (try simp only [Bool.and_eq_true, Bool.or_eq_true, Bool.not_eq_true', decide_eq_true_eq, decide_eq_false_iff_not, beq_iff_eq, bne_iff_ne, ne_eq, inI64, List.length_append] at *) <;> omega)
    · exact hL hF'
    refine end_ret rfl ?_
    simp only [fin, go_sem, Int.cast_ofNat_Int, Nat.reduceEqDiff, reduceIte, Nat.reduceAdd, Nat.reduceMul, Nat.reduceLeDiff, Nat.reduceSub, Nat.reduceLT, Nat.zero_lt_succ, Int.reduceToNat, Int.reduceAdd, Int.reduceSub, Int.reduceMul, Int.reduceNeg, Int.reduceLT, Int.reduceLE, Int.reduceEq, Int.reduceBEq, Int.reduceBNe, Nat.reduceBEq, List.reduceReplicate, applyV, hF']
    exact LeA.refl _
noncomputable def con11 : PCon Try.prog where
  f := 11
  c := fun
    | [.lit (.string op), x] => (slK .i64 x).map fun xs => (True, applyV (applyS op xs))
    | _ => none
  ok := by
    intro args p r hc hp
    split at hc
    · rename_i op x
      cases hl : slK .i64 x with
      | none => rw [hl] at hc; cases hc
      | some xs =>
        rw [hl] at hc
        cases hc
        exact PC.weak apply_pc ⟨LeA.refl _, slK_le hl, trivial⟩
    · cases hc
  fk := fk11
theorem con11_f : con11.f = 11 := rfl
theorem con11_c {op : ByteArray} {x : AV} : con11.c [.lit (.string op), x] = (slK .i64 x).map fun xs => (True, applyV (applyS op xs)) := rfl
end Go.Proofs.Ytbmogpafhdbfdaa

/- apply of the laws; the examples. -/
namespace Go.Proofs.Ytbmogpafhdbfdaa
open Go Go.Fw

noncomputable def E9 : Env := envOf (P := Try.prog) zer (fun _ => false) (fun _ => false) [con11] []
theorem E9_ok : EnvOk Try.prog E9 := envOk zer_ok
theorem lapply_pc {op : ByteArray} {xs : List Int} : PC Try.prog 15 [.lit (.string op), .sl false 1 (ints .i64 xs)] (.lit (.int .i64 ((applyS op xs).getD 1099511627776))) := by
  cases h : applyS op xs with
  | none =>
    refine pc_of E9_ok mixed (fun _ => [0, 1, 4, 5, 6, 14]) Try.func15 rfl (by kernel_rfl) (Nat.le_of_ble_eq_true rfl) ?_
    simp only [initF_cons, initF_nil, Nat.reduceAdd]
    refine t_name fun KF => ?_
    unfold E9
    repeat' (first
      | with_reducible refine t_seq fun K => ?_
      | with_reducible refine t_block ?_
      | with_reducible refine t_scope ?_
      | with_reducible refine t_label ?_
      | with_reducible refine t_skip ?_
      | with_reducible refine t_exit ?_
      | with_reducible refine t_ret ?_
      | with_reducible refine t_k ?_
      | (with_reducible refine t_gF ?_)
      | ((first | with_reducible refine t_kE ?_ | with_reducible refine t_kD ?_ | with_reducible refine t_gS ?_ | with_reducible refine t_kL ?_ | (with_reducible refine t_kLE ?_ ?_; rotate_left) | with_reducible refine t_region fun K => ?_ | with_reducible refine t_draw (by kernel_rfl) fun K => ?_); simp only [go_sem, Int.cast_ofNat_Int, Nat.reduceEqDiff, reduceIte, Nat.reduceAdd, Nat.reduceMul, Nat.reduceLeDiff, Nat.reduceSub, Nat.reduceLT, Nat.zero_lt_succ, Int.reduceToNat, Int.reduceAdd, Int.reduceSub, Int.reduceMul, Int.reduceNeg, Int.reduceLT, Int.reduceLE, Int.reduceEq, Int.reduceBEq, Int.reduceBNe, Nat.reduceBEq, List.reduceReplicate, con11_f, con11_c, slK_sl, Option.map_some, h, applyV])
      | (with_reducible exact kp_nil)
      | (with_reducible exact Kp.refl _)
      | (with_reducible exact kp_to)
      | (with_reducible refine kp_cons ?_)
      | (with_reducible refine kp_arr ?_)
      | (with_reducible refine kp_app ?_)
      | ((with_reducible refine t_cond fun A B => ?_); simp only [go_sem, Int.cast_ofNat_Int, Nat.reduceEqDiff, reduceIte, Nat.reduceAdd, Nat.reduceMul, Nat.reduceLeDiff, Nat.reduceSub, Nat.reduceLT, Nat.zero_lt_succ, Int.reduceToNat, Int.reduceAdd, Int.reduceSub, Int.reduceMul, Int.reduceNeg, Int.reduceLT, Int.reduceLE, Int.reduceEq, Int.reduceBEq, Int.reduceBNe, Nat.reduceBEq, List.reduceReplicate, con11_f, con11_c, slK_sl, Option.map_some, h, applyV]; first | (with_reducible refine A.h ?_) | (with_reducible refine B.h ?_) | refine And.intro (fun hc => A.h ?_) (fun hc => B.h ?_))
      | simp only [thenQ_n, thenQ_r, thenQ_e, blockQ_n, blockQ_r, blockQ_e, scopeQ_n, scopeQ_r, scopeQ_e, Nat.reduceEqDiff, reduceIte]
      | (with_reducible refine And.intro ?_ ?_)
      | with_reducible intro vr)
    all_goals try (intros; (try simp only [Bool.and_eq_true, Bool.or_eq_true, Bool.not_eq_true', decide_eq_true_eq, decide_eq_false_iff_not, beq_iff_eq, bne_iff_ne, ne_eq, inI64, List.length_append] at *) <;> omega)
    refine end_ret rfl ?_
    simp only [fin, go_sem, Int.cast_ofNat_Int, Nat.reduceEqDiff, reduceIte, Nat.reduceAdd, Nat.reduceMul, Nat.reduceLeDiff, Nat.reduceSub, Nat.reduceLT, Nat.zero_lt_succ, Int.reduceToNat, Int.reduceAdd, Int.reduceSub, Int.reduceMul, Int.reduceNeg, Int.reduceLT, Int.reduceLE, Int.reduceEq, Int.reduceBEq, Int.reduceBNe, Nat.reduceBEq, List.reduceReplicate]
    exact LeA.refl _
  | some n =>
    refine pc_of E9_ok mixed (fun _ => [0, 1, 4, 5, 6, 14]) Try.func15 rfl (by kernel_rfl) (Nat.le_of_ble_eq_true rfl) ?_
    simp only [initF_cons, initF_nil, Nat.reduceAdd]
    refine t_name fun KF => ?_
    unfold E9
    repeat' (first
      | with_reducible refine t_seq fun K => ?_
      | with_reducible refine t_block ?_
      | with_reducible refine t_scope ?_
      | with_reducible refine t_label ?_
      | with_reducible refine t_skip ?_
      | with_reducible refine t_exit ?_
      | with_reducible refine t_ret ?_
      | with_reducible refine t_k ?_
      | (with_reducible refine t_gF ?_)
      | ((first | with_reducible refine t_kE ?_ | with_reducible refine t_kD ?_ | with_reducible refine t_gS ?_ | with_reducible refine t_kL ?_ | (with_reducible refine t_kLE ?_ ?_; rotate_left) | with_reducible refine t_region fun K => ?_ | with_reducible refine t_draw (by kernel_rfl) fun K => ?_); simp only [go_sem, Int.cast_ofNat_Int, Nat.reduceEqDiff, reduceIte, Nat.reduceAdd, Nat.reduceMul, Nat.reduceLeDiff, Nat.reduceSub, Nat.reduceLT, Nat.zero_lt_succ, Int.reduceToNat, Int.reduceAdd, Int.reduceSub, Int.reduceMul, Int.reduceNeg, Int.reduceLT, Int.reduceLE, Int.reduceEq, Int.reduceBEq, Int.reduceBNe, Nat.reduceBEq, List.reduceReplicate, con11_f, con11_c, slK_sl, Option.map_some, h, applyV])
      | (with_reducible exact kp_nil)
      | (with_reducible exact Kp.refl _)
      | (with_reducible exact kp_to)
      | (with_reducible refine kp_cons ?_)
      | (with_reducible refine kp_arr ?_)
      | (with_reducible refine kp_app ?_)
      | ((with_reducible refine t_cond fun A B => ?_); simp only [go_sem, Int.cast_ofNat_Int, Nat.reduceEqDiff, reduceIte, Nat.reduceAdd, Nat.reduceMul, Nat.reduceLeDiff, Nat.reduceSub, Nat.reduceLT, Nat.zero_lt_succ, Int.reduceToNat, Int.reduceAdd, Int.reduceSub, Int.reduceMul, Int.reduceNeg, Int.reduceLT, Int.reduceLE, Int.reduceEq, Int.reduceBEq, Int.reduceBNe, Nat.reduceBEq, List.reduceReplicate, con11_f, con11_c, slK_sl, Option.map_some, h, applyV]; first | (with_reducible refine A.h ?_) | (with_reducible refine B.h ?_) | refine And.intro (fun hc => A.h ?_) (fun hc => B.h ?_))
      | simp only [thenQ_n, thenQ_r, thenQ_e, blockQ_n, blockQ_r, blockQ_e, scopeQ_n, scopeQ_r, scopeQ_e, Nat.reduceEqDiff, reduceIte]
      | (with_reducible refine And.intro ?_ ?_)
      | with_reducible intro vr)
    all_goals try (intros; (try simp only [Bool.and_eq_true, Bool.or_eq_true, Bool.not_eq_true', decide_eq_true_eq, decide_eq_false_iff_not, beq_iff_eq, bne_iff_ne, ne_eq, inI64, List.length_append] at *) <;> omega)
    refine end_ret rfl ?_
    simp only [fin, go_sem, Int.cast_ofNat_Int, Nat.reduceEqDiff, reduceIte, Nat.reduceAdd, Nat.reduceMul, Nat.reduceLeDiff, Nat.reduceSub, Nat.reduceLT, Nat.zero_lt_succ, Int.reduceToNat, Int.reduceAdd, Int.reduceSub, Int.reduceMul, Int.reduceNeg, Int.reduceLT, Int.reduceLE, Int.reduceEq, Int.reduceBEq, Int.reduceBNe, Nat.reduceBEq, List.reduceReplicate]
    exact LeA.refl _
noncomputable def con15 : PCon Try.prog where
  f := 15
  c := fun
    | [.lit (.string op), x] => (rowIx op).bind fun i => (slK .i64 x).map fun xs => (okL i xs, .lit (.int .i64 (vS i xs)))
    | _ => none
  ok := by
    intro args p r hc hp
    split at hc
    · rename_i op x
      cases hx : rowIx op with
      | none => rw [hx] at hc; cases hc
      | some i =>
        cases hl : slK .i64 x with
        | none => rw [hx, hl] at hc; cases hc
        | some xs =>
          rw [hx, hl] at hc
          cases hc
          have e : applyS op xs = some (vS i xs) := by
            unfold applyS; rw [hx]; simp only [Option.bind_some]; rw [if_pos (okB_iff.2 hp)]
          have := lapply_pc (op := op) (xs := xs)
          rw [e] at this
          exact PC.weak this ⟨LeA.refl _, slK_le hl, trivial⟩
    · cases hc
  fk := fk15
theorem con15_f : con15.f = 15 := rfl
theorem ap_eq {op : ByteArray} {x : AV} {i : Nat} {xs : List Int} {p : Prop} {r : Int} (hx : rowIx op = some i) (hl : slK .i64 x = some xs) (hp : p → okL i xs) (hr : vS i xs = r) :
    ∃ q : Prop, (p → q) ∧ con15.c [.lit (.string op), x] = some (q, .lit (.int .i64 r)) := by
  refine ⟨okL i xs, hp, ?_⟩
  show ((rowIx op).bind fun i => (slK .i64 x).map fun xs => (okL i xs, AV.lit (.int .i64 (vS i xs)))) = _
  rw [hx, hl, ← hr]
  rfl
theorem okp_0 {a b : Int} : okL 0 [a, b] = (el a ∧ el b) := by
  apply propext
  rw [okL_0]
  constructor
  · rintro ⟨a', b', e, h⟩
    cases e
    exact h
  · intro h
    exact ⟨a, b, rfl, h⟩
theorem ap_0 {a b : Int} {t : Bool} : con15.c [.lit (.string (⟨#[97, 100, 100]⟩ : ByteArray)), .sl t 1 [.lit (.int .i64 a), .lit (.int .i64 b)]] = some (el a ∧ el b, .lit (.int .i64 (w32 (a + b)))) := by
  show (Option.bind (some 0) fun i => (slK .i64 (.sl t 1 [.lit (.int .i64 a), .lit (.int .i64 b)])).map fun xs => (okL i xs, AV.lit (.int .i64 (vS i xs)))) = _
  have e : slK .i64 (.sl t 1 [.lit (.int .i64 a), .lit (.int .i64 b)]) = some [a, b] := slK_sl (l := [a, b])
  rw [e]
  show some (okL 0 [a, b], _) = _
  rw [okp_0]
  rfl
theorem okp_1 {a b : Int} : okL 1 [a, b] = (el a ∧ el b) := by
  apply propext
  rw [okL_1]
  constructor
  · rintro ⟨a', b', e, h⟩
    cases e
    exact h
  · intro h
    exact ⟨a, b, rfl, h⟩
theorem ap_1 {a b : Int} {t : Bool} : con15.c [.lit (.string (⟨#[115, 117, 98]⟩ : ByteArray)), .sl t 1 [.lit (.int .i64 a), .lit (.int .i64 b)]] = some (el a ∧ el b, .lit (.int .i64 (w32 (a - b)))) := by
  show (Option.bind (some 1) fun i => (slK .i64 (.sl t 1 [.lit (.int .i64 a), .lit (.int .i64 b)])).map fun xs => (okL i xs, AV.lit (.int .i64 (vS i xs)))) = _
  have e : slK .i64 (.sl t 1 [.lit (.int .i64 a), .lit (.int .i64 b)]) = some [a, b] := slK_sl (l := [a, b])
  rw [e]
  show some (okL 1 [a, b], _) = _
  rw [okp_1]
  rfl
theorem okp_2 {a b : Int} : okL 2 [a, b] = (el a ∧ el b) := by
  apply propext
  rw [okL_2]
  constructor
  · rintro ⟨a', b', e, h⟩
    cases e
    exact h
  · intro h
    exact ⟨a, b, rfl, h⟩
theorem ap_2 {a b : Int} {t : Bool} : con15.c [.lit (.string (⟨#[109, 117, 108]⟩ : ByteArray)), .sl t 1 [.lit (.int .i64 a), .lit (.int .i64 b)]] = some (el a ∧ el b, .lit (.int .i64 (w32 (a * b)))) := by
  show (Option.bind (some 2) fun i => (slK .i64 (.sl t 1 [.lit (.int .i64 a), .lit (.int .i64 b)])).map fun xs => (okL i xs, AV.lit (.int .i64 (vS i xs)))) = _
  have e : slK .i64 (.sl t 1 [.lit (.int .i64 a), .lit (.int .i64 b)]) = some [a, b] := slK_sl (l := [a, b])
  rw [e]
  show some (okL 2 [a, b], _) = _
  rw [okp_2]
  rfl
theorem okp_3 {a b : Int} : okL 3 [a, b] = (el a ∧ el b) := by
  apply propext
  rw [okL_3]
  constructor
  · rintro ⟨a', b', e, h⟩
    cases e
    exact h
  · intro h
    exact ⟨a, b, rfl, h⟩
theorem ap_3 {a b : Int} {t : Bool} : con15.c [.lit (.string (⟨#[100, 105, 118]⟩ : ByteArray)), .sl t 1 [.lit (.int .i64 a), .lit (.int .i64 b)]] = some (el a ∧ el b, .lit (.int .i64 (w32 (flo a b)))) := by
  show (Option.bind (some 3) fun i => (slK .i64 (.sl t 1 [.lit (.int .i64 a), .lit (.int .i64 b)])).map fun xs => (okL i xs, AV.lit (.int .i64 (vS i xs)))) = _
  have e : slK .i64 (.sl t 1 [.lit (.int .i64 a), .lit (.int .i64 b)]) = some [a, b] := slK_sl (l := [a, b])
  rw [e]
  show some (okL 3 [a, b], _) = _
  rw [okp_3]
  rfl
theorem okp_4 {a b : Int} : okL 4 [a, b] = (el a ∧ el b) := by
  apply propext
  rw [okL_4]
  constructor
  · rintro ⟨a', b', e, h⟩
    cases e
    exact h
  · intro h
    exact ⟨a, b, rfl, h⟩
theorem ap_4 {a b : Int} {t : Bool} : con15.c [.lit (.string (⟨#[109, 111, 100]⟩ : ByteArray)), .sl t 1 [.lit (.int .i64 a), .lit (.int .i64 b)]] = some (el a ∧ el b, .lit (.int .i64 (if b = 0 then 0 else a - b * flo a b))) := by
  show (Option.bind (some 4) fun i => (slK .i64 (.sl t 1 [.lit (.int .i64 a), .lit (.int .i64 b)])).map fun xs => (okL i xs, AV.lit (.int .i64 (vS i xs)))) = _
  have e : slK .i64 (.sl t 1 [.lit (.int .i64 a), .lit (.int .i64 b)]) = some [a, b] := slK_sl (l := [a, b])
  rw [e]
  show some (okL 4 [a, b], _) = _
  rw [okp_4]
  rfl
theorem okp_5 {a b : Int} : okL 5 [a, b] = (el a ∧ el b) := by
  apply propext
  rw [okL_5]
  constructor
  · rintro ⟨a', b', e, h⟩
    cases e
    exact h
  · intro h
    exact ⟨a, b, rfl, h⟩
theorem ap_5 {a b : Int} {t : Bool} : con15.c [.lit (.string (⟨#[109, 105, 110]⟩ : ByteArray)), .sl t 1 [.lit (.int .i64 a), .lit (.int .i64 b)]] = some (el a ∧ el b, .lit (.int .i64 (minI a b))) := by
  show (Option.bind (some 5) fun i => (slK .i64 (.sl t 1 [.lit (.int .i64 a), .lit (.int .i64 b)])).map fun xs => (okL i xs, AV.lit (.int .i64 (vS i xs)))) = _
  have e : slK .i64 (.sl t 1 [.lit (.int .i64 a), .lit (.int .i64 b)]) = some [a, b] := slK_sl (l := [a, b])
  rw [e]
  show some (okL 5 [a, b], _) = _
  rw [okp_5]
  rfl
theorem okp_6 {a b : Int} : okL 6 [a, b] = (el a ∧ el b) := by
  apply propext
  rw [okL_6]
  constructor
  · rintro ⟨a', b', e, h⟩
    cases e
    exact h
  · intro h
    exact ⟨a, b, rfl, h⟩
theorem ap_6 {a b : Int} {t : Bool} : con15.c [.lit (.string (⟨#[109, 97, 120]⟩ : ByteArray)), .sl t 1 [.lit (.int .i64 a), .lit (.int .i64 b)]] = some (el a ∧ el b, .lit (.int .i64 (maxI a b))) := by
  show (Option.bind (some 6) fun i => (slK .i64 (.sl t 1 [.lit (.int .i64 a), .lit (.int .i64 b)])).map fun xs => (okL i xs, AV.lit (.int .i64 (vS i xs)))) = _
  have e : slK .i64 (.sl t 1 [.lit (.int .i64 a), .lit (.int .i64 b)]) = some [a, b] := slK_sl (l := [a, b])
  rw [e]
  show some (okL 6 [a, b], _) = _
  rw [okp_6]
  rfl
theorem okp_7 {a : Int} : okL 7 [a] = (el a) := by
  apply propext
  rw [okL_7]
  constructor
  · rintro ⟨a', e, h⟩
    cases e
    exact h
  · intro h
    exact ⟨a, rfl, h⟩
theorem ap_7 {a : Int} {t : Bool} : con15.c [.lit (.string (⟨#[110, 101, 103]⟩ : ByteArray)), .sl t 1 [.lit (.int .i64 a)]] = some (el a, .lit (.int .i64 (w32 (0 - a)))) := by
  show (Option.bind (some 7) fun i => (slK .i64 (.sl t 1 [.lit (.int .i64 a)])).map fun xs => (okL i xs, AV.lit (.int .i64 (vS i xs)))) = _
  have e : slK .i64 (.sl t 1 [.lit (.int .i64 a)]) = some [a] := slK_sl (l := [a])
  rw [e]
  show some (okL 7 [a], _) = _
  rw [okp_7]
  rfl
theorem okp_8 {a : Int} : okL 8 [a] = (el a) := by
  apply propext
  rw [okL_8]
  constructor
  · rintro ⟨a', e, h⟩
    cases e
    exact h
  · intro h
    exact ⟨a, rfl, h⟩
theorem ap_8 {a : Int} {t : Bool} : con15.c [.lit (.string (⟨#[97, 98, 115]⟩ : ByteArray)), .sl t 1 [.lit (.int .i64 a)]] = some (el a, .lit (.int .i64 (w32 (maxI a (0 - a))))) := by
  show (Option.bind (some 8) fun i => (slK .i64 (.sl t 1 [.lit (.int .i64 a)])).map fun xs => (okL i xs, AV.lit (.int .i64 (vS i xs)))) = _
  have e : slK .i64 (.sl t 1 [.lit (.int .i64 a)]) = some [a] := slK_sl (l := [a])
  rw [e]
  show some (okL 8 [a], _) = _
  rw [okp_8]
  rfl
theorem okp_9 {a : Int} : okL 9 [a] = (el a) := by
  apply propext
  rw [okL_9]
  constructor
  · rintro ⟨a', e, h⟩
    cases e
    exact h
  · intro h
    exact ⟨a, rfl, h⟩
theorem ap_9 {a : Int} {t : Bool} : con15.c [.lit (.string (⟨#[115, 105, 103, 110]⟩ : ByteArray)), .sl t 1 [.lit (.int .i64 a)]] = some (el a, .lit (.int .i64 (sgn a))) := by
  show (Option.bind (some 9) fun i => (slK .i64 (.sl t 1 [.lit (.int .i64 a)])).map fun xs => (okL i xs, AV.lit (.int .i64 (vS i xs)))) = _
  have e : slK .i64 (.sl t 1 [.lit (.int .i64 a)]) = some [a] := slK_sl (l := [a])
  rw [e]
  show some (okL 9 [a], _) = _
  rw [okp_9]
  rfl
theorem okp_10 {a b : Int} : okL 10 [a, b] = (el a ∧ el b) := by
  apply propext
  rw [okL_10]
  constructor
  · rintro ⟨a', b', e, h⟩
    cases e
    exact h
  · intro h
    exact ⟨a, b, rfl, h⟩
theorem ap_10 {a b : Int} {t : Bool} : con15.c [.lit (.string (⟨#[108, 116]⟩ : ByteArray)), .sl t 1 [.lit (.int .i64 a), .lit (.int .i64 b)]] = some (el a ∧ el b, .lit (.int .i64 (tru (decide (a < b))))) := by
  show (Option.bind (some 10) fun i => (slK .i64 (.sl t 1 [.lit (.int .i64 a), .lit (.int .i64 b)])).map fun xs => (okL i xs, AV.lit (.int .i64 (vS i xs)))) = _
  have e : slK .i64 (.sl t 1 [.lit (.int .i64 a), .lit (.int .i64 b)]) = some [a, b] := slK_sl (l := [a, b])
  rw [e]
  show some (okL 10 [a, b], _) = _
  rw [okp_10]
  rfl
theorem okp_11 {a b : Int} : okL 11 [a, b] = (el a ∧ el b) := by
  apply propext
  rw [okL_11]
  constructor
  · rintro ⟨a', b', e, h⟩
    cases e
    exact h
  · intro h
    exact ⟨a, b, rfl, h⟩
theorem ap_11 {a b : Int} {t : Bool} : con15.c [.lit (.string (⟨#[108, 101]⟩ : ByteArray)), .sl t 1 [.lit (.int .i64 a), .lit (.int .i64 b)]] = some (el a ∧ el b, .lit (.int .i64 (tru (decide (a ≤ b))))) := by
  show (Option.bind (some 11) fun i => (slK .i64 (.sl t 1 [.lit (.int .i64 a), .lit (.int .i64 b)])).map fun xs => (okL i xs, AV.lit (.int .i64 (vS i xs)))) = _
  have e : slK .i64 (.sl t 1 [.lit (.int .i64 a), .lit (.int .i64 b)]) = some [a, b] := slK_sl (l := [a, b])
  rw [e]
  show some (okL 11 [a, b], _) = _
  rw [okp_11]
  rfl
theorem okp_12 {a b : Int} : okL 12 [a, b] = (el a ∧ el b) := by
  apply propext
  rw [okL_12]
  constructor
  · rintro ⟨a', b', e, h⟩
    cases e
    exact h
  · intro h
    exact ⟨a, b, rfl, h⟩
theorem ap_12 {a b : Int} {t : Bool} : con15.c [.lit (.string (⟨#[103, 116]⟩ : ByteArray)), .sl t 1 [.lit (.int .i64 a), .lit (.int .i64 b)]] = some (el a ∧ el b, .lit (.int .i64 (tru (decide (a > b))))) := by
  show (Option.bind (some 12) fun i => (slK .i64 (.sl t 1 [.lit (.int .i64 a), .lit (.int .i64 b)])).map fun xs => (okL i xs, AV.lit (.int .i64 (vS i xs)))) = _
  have e : slK .i64 (.sl t 1 [.lit (.int .i64 a), .lit (.int .i64 b)]) = some [a, b] := slK_sl (l := [a, b])
  rw [e]
  show some (okL 12 [a, b], _) = _
  rw [okp_12]
  rfl
theorem okp_13 {a b : Int} : okL 13 [a, b] = (el a ∧ el b) := by
  apply propext
  rw [okL_13]
  constructor
  · rintro ⟨a', b', e, h⟩
    cases e
    exact h
  · intro h
    exact ⟨a, b, rfl, h⟩
theorem ap_13 {a b : Int} {t : Bool} : con15.c [.lit (.string (⟨#[103, 101]⟩ : ByteArray)), .sl t 1 [.lit (.int .i64 a), .lit (.int .i64 b)]] = some (el a ∧ el b, .lit (.int .i64 (tru (decide (a ≥ b))))) := by
  show (Option.bind (some 13) fun i => (slK .i64 (.sl t 1 [.lit (.int .i64 a), .lit (.int .i64 b)])).map fun xs => (okL i xs, AV.lit (.int .i64 (vS i xs)))) = _
  have e : slK .i64 (.sl t 1 [.lit (.int .i64 a), .lit (.int .i64 b)]) = some [a, b] := slK_sl (l := [a, b])
  rw [e]
  show some (okL 13 [a, b], _) = _
  rw [okp_13]
  rfl
theorem okp_14 {a b : Int} : okL 14 [a, b] = (el a ∧ el b) := by
  apply propext
  rw [okL_14]
  constructor
  · rintro ⟨a', b', e, h⟩
    cases e
    exact h
  · intro h
    exact ⟨a, b, rfl, h⟩
theorem ap_14 {a b : Int} {t : Bool} : con15.c [.lit (.string (⟨#[101, 113]⟩ : ByteArray)), .sl t 1 [.lit (.int .i64 a), .lit (.int .i64 b)]] = some (el a ∧ el b, .lit (.int .i64 (tru (a == b)))) := by
  show (Option.bind (some 14) fun i => (slK .i64 (.sl t 1 [.lit (.int .i64 a), .lit (.int .i64 b)])).map fun xs => (okL i xs, AV.lit (.int .i64 (vS i xs)))) = _
  have e : slK .i64 (.sl t 1 [.lit (.int .i64 a), .lit (.int .i64 b)]) = some [a, b] := slK_sl (l := [a, b])
  rw [e]
  show some (okL 14 [a, b], _) = _
  rw [okp_14]
  rfl
theorem okp_15 {a b : Int} : okL 15 [a, b] = (el a ∧ el b) := by
  apply propext
  rw [okL_15]
  constructor
  · rintro ⟨a', b', e, h⟩
    cases e
    exact h
  · intro h
    exact ⟨a, b, rfl, h⟩
theorem ap_15 {a b : Int} {t : Bool} : con15.c [.lit (.string (⟨#[110, 101]⟩ : ByteArray)), .sl t 1 [.lit (.int .i64 a), .lit (.int .i64 b)]] = some (el a ∧ el b, .lit (.int .i64 (tru (a != b)))) := by
  show (Option.bind (some 15) fun i => (slK .i64 (.sl t 1 [.lit (.int .i64 a), .lit (.int .i64 b)])).map fun xs => (okL i xs, AV.lit (.int .i64 (vS i xs)))) = _
  have e : slK .i64 (.sl t 1 [.lit (.int .i64 a), .lit (.int .i64 b)]) = some [a, b] := slK_sl (l := [a, b])
  rw [e]
  show some (okL 15 [a, b], _) = _
  rw [okp_15]
  rfl
theorem okp_16 {a b : Int} : okL 16 [a, b] = ((a = 0 ∨ a = 1) ∧ (b = 0 ∨ b = 1)) := by
  apply propext
  rw [okL_16]
  constructor
  · rintro ⟨a', b', e, h⟩
    cases e
    exact h
  · intro h
    exact ⟨a, b, rfl, h⟩
theorem ap_16 {a b : Int} {t : Bool} : con15.c [.lit (.string (⟨#[97, 110, 100]⟩ : ByteArray)), .sl t 1 [.lit (.int .i64 a), .lit (.int .i64 b)]] = some ((a = 0 ∨ a = 1) ∧ (b = 0 ∨ b = 1), .lit (.int .i64 (minI a b))) := by
  show (Option.bind (some 16) fun i => (slK .i64 (.sl t 1 [.lit (.int .i64 a), .lit (.int .i64 b)])).map fun xs => (okL i xs, AV.lit (.int .i64 (vS i xs)))) = _
  have e : slK .i64 (.sl t 1 [.lit (.int .i64 a), .lit (.int .i64 b)]) = some [a, b] := slK_sl (l := [a, b])
  rw [e]
  show some (okL 16 [a, b], _) = _
  rw [okp_16]
  rfl
theorem okp_17 {a b : Int} : okL 17 [a, b] = ((a = 0 ∨ a = 1) ∧ (b = 0 ∨ b = 1)) := by
  apply propext
  rw [okL_17]
  constructor
  · rintro ⟨a', b', e, h⟩
    cases e
    exact h
  · intro h
    exact ⟨a, b, rfl, h⟩
theorem ap_17 {a b : Int} {t : Bool} : con15.c [.lit (.string (⟨#[111, 114]⟩ : ByteArray)), .sl t 1 [.lit (.int .i64 a), .lit (.int .i64 b)]] = some ((a = 0 ∨ a = 1) ∧ (b = 0 ∨ b = 1), .lit (.int .i64 (maxI a b))) := by
  show (Option.bind (some 17) fun i => (slK .i64 (.sl t 1 [.lit (.int .i64 a), .lit (.int .i64 b)])).map fun xs => (okL i xs, AV.lit (.int .i64 (vS i xs)))) = _
  have e : slK .i64 (.sl t 1 [.lit (.int .i64 a), .lit (.int .i64 b)]) = some [a, b] := slK_sl (l := [a, b])
  rw [e]
  show some (okL 17 [a, b], _) = _
  rw [okp_17]
  rfl
theorem okp_18 {a b : Int} : okL 18 [a, b] = ((a = 0 ∨ a = 1) ∧ (b = 0 ∨ b = 1)) := by
  apply propext
  rw [okL_18]
  constructor
  · rintro ⟨a', b', e, h⟩
    cases e
    exact h
  · intro h
    exact ⟨a, b, rfl, h⟩
theorem ap_18 {a b : Int} {t : Bool} : con15.c [.lit (.string (⟨#[120, 111, 114]⟩ : ByteArray)), .sl t 1 [.lit (.int .i64 a), .lit (.int .i64 b)]] = some ((a = 0 ∨ a = 1) ∧ (b = 0 ∨ b = 1), .lit (.int .i64 (if a = b then 0 else 1))) := by
  show (Option.bind (some 18) fun i => (slK .i64 (.sl t 1 [.lit (.int .i64 a), .lit (.int .i64 b)])).map fun xs => (okL i xs, AV.lit (.int .i64 (vS i xs)))) = _
  have e : slK .i64 (.sl t 1 [.lit (.int .i64 a), .lit (.int .i64 b)]) = some [a, b] := slK_sl (l := [a, b])
  rw [e]
  show some (okL 18 [a, b], _) = _
  rw [okp_18]
  rfl
theorem okp_19 {a : Int} : okL 19 [a] = ((a = 0 ∨ a = 1)) := by
  apply propext
  rw [okL_19]
  constructor
  · rintro ⟨a', e, h⟩
    cases e
    exact h
  · intro h
    exact ⟨a, rfl, h⟩
theorem ap_19 {a : Int} {t : Bool} : con15.c [.lit (.string (⟨#[110, 111, 116]⟩ : ByteArray)), .sl t 1 [.lit (.int .i64 a)]] = some ((a = 0 ∨ a = 1), .lit (.int .i64 (1 - a))) := by
  show (Option.bind (some 19) fun i => (slK .i64 (.sl t 1 [.lit (.int .i64 a)])).map fun xs => (okL i xs, AV.lit (.int .i64 (vS i xs)))) = _
  have e : slK .i64 (.sl t 1 [.lit (.int .i64 a)]) = some [a] := slK_sl (l := [a])
  rw [e]
  show some (okL 19 [a], _) = _
  rw [okp_19]
  rfl
theorem okp_20 {a b c : Int} : okL 20 [a, b, c] = ((a = 0 ∨ a = 1) ∧ el b ∧ el c) := by
  apply propext
  rw [okL_20]
  constructor
  · rintro ⟨a', b', c', e, h⟩
    cases e
    exact h
  · intro h
    exact ⟨a, b, c, rfl, h⟩
theorem ap_20 {a b c : Int} {t : Bool} : con15.c [.lit (.string (⟨#[115, 101, 108, 101, 99, 116]⟩ : ByteArray)), .sl t 1 [.lit (.int .i64 a), .lit (.int .i64 b), .lit (.int .i64 c)]] = some ((a = 0 ∨ a = 1) ∧ el b ∧ el c, .lit (.int .i64 (if a = 1 then b else c))) := by
  show (Option.bind (some 20) fun i => (slK .i64 (.sl t 1 [.lit (.int .i64 a), .lit (.int .i64 b), .lit (.int .i64 c)])).map fun xs => (okL i xs, AV.lit (.int .i64 (vS i xs)))) = _
  have e : slK .i64 (.sl t 1 [.lit (.int .i64 a), .lit (.int .i64 b), .lit (.int .i64 c)]) = some [a, b, c] := slK_sl (l := [a, b, c])
  rw [e]
  show some (okL 20 [a, b, c], _) = _
  rw [okp_20]
  rfl
theorem okp_21 {a : Int} : okL 21 [a] = ((a = 0 ∨ a = 1)) := by
  apply propext
  rw [okL_21]
  constructor
  · rintro ⟨a', e, h⟩
    cases e
    exact h
  · intro h
    exact ⟨a, rfl, h⟩
theorem ap_21 {a : Int} {t : Bool} : con15.c [.lit (.string (⟨#[116, 111, 105, 110, 116]⟩ : ByteArray)), .sl t 1 [.lit (.int .i64 a)]] = some ((a = 0 ∨ a = 1), .lit (.int .i64 (a))) := by
  show (Option.bind (some 21) fun i => (slK .i64 (.sl t 1 [.lit (.int .i64 a)])).map fun xs => (okL i xs, AV.lit (.int .i64 (vS i xs)))) = _
  have e : slK .i64 (.sl t 1 [.lit (.int .i64 a)]) = some [a] := slK_sl (l := [a])
  rw [e]
  show some (okL 21 [a], _) = _
  rw [okp_21]
  rfl
noncomputable def E10 : Env := envOf (P := Try.prog) zer (fun _ => false) (fun _ => false) [con15, con16] []
theorem E10_ok : EnvOk Try.prog E10 := envOk zer_ok
theorem awake_pc : PC Try.prog 10 [] (.lit (.bool true)) := by
  have a1 : w32 (flo (-7) 2) = -4 := by decide +kernel
  have a2 : (-7 : Int) - 2 * flo (-7) 2 = 1 := by decide +kernel
  have a3 : w32 4294967296 = 0 := by decide +kernel
  have a4 : w32 2147483648 = -2147483648 := by decide +kernel
  refine pc_of E10_ok mixed (fun _ => [0]) Try.func10 rfl (by kernel_rfl) (Nat.le_of_ble_eq_true rfl) ?_
  simp only [initF_cons, initF_nil, Nat.reduceAdd]
  refine t_name fun KF => ?_
  unfold E10
  repeat' (first
    | with_reducible refine t_seq fun K => ?_
    | with_reducible refine t_block ?_
    | with_reducible refine t_scope ?_
    | with_reducible refine t_label ?_
    | with_reducible refine t_skip ?_
    | with_reducible refine t_exit ?_
    | with_reducible refine t_ret ?_
    | with_reducible refine t_k ?_
    | (with_reducible refine t_gF ?_)
    | ((first | with_reducible refine t_kE ?_ | with_reducible refine t_kD ?_ | with_reducible refine t_gS ?_ | with_reducible refine t_kL ?_ | (with_reducible refine t_kLE ?_ ?_; rotate_left) | with_reducible refine t_region fun K => ?_ | with_reducible refine t_draw (by kernel_rfl) fun K => ?_); simp only [go_sem, Int.cast_ofNat_Int, Nat.reduceEqDiff, reduceIte, Nat.reduceAdd, Nat.reduceMul, Nat.reduceLeDiff, Nat.reduceSub, Nat.reduceLT, Nat.zero_lt_succ, Int.reduceToNat, Int.reduceAdd, Int.reduceSub, Int.reduceMul, Int.reduceNeg, Int.reduceLT, Int.reduceLE, Int.reduceEq, Int.reduceBEq, Int.reduceBNe, Nat.reduceBEq, List.reduceReplicate, con15_f, con16_f, con16_c, ap_0, ap_1, ap_2, ap_3, ap_4, ap_7, a1, a2, a3, a4])
    | (with_reducible exact kp_nil)
    | (with_reducible exact Kp.refl _)
    | (with_reducible exact kp_to)
    | (with_reducible refine kp_cons ?_)
    | (with_reducible refine kp_arr ?_)
    | (with_reducible refine kp_app ?_)
    | ((with_reducible refine t_cond fun A B => ?_); simp only [go_sem, Int.cast_ofNat_Int, Nat.reduceEqDiff, reduceIte, Nat.reduceAdd, Nat.reduceMul, Nat.reduceLeDiff, Nat.reduceSub, Nat.reduceLT, Nat.zero_lt_succ, Int.reduceToNat, Int.reduceAdd, Int.reduceSub, Int.reduceMul, Int.reduceNeg, Int.reduceLT, Int.reduceLE, Int.reduceEq, Int.reduceBEq, Int.reduceBNe, Nat.reduceBEq, List.reduceReplicate, con15_f, con16_f, con16_c, ap_0, ap_1, ap_2, ap_3, ap_4, ap_7, a1, a2, a3, a4]; first | (with_reducible refine A.h ?_) | (with_reducible refine B.h ?_) | refine And.intro (fun hc => A.h ?_) (fun hc => B.h ?_))
    | simp only [thenQ_n, thenQ_r, thenQ_e, blockQ_n, blockQ_r, blockQ_e, scopeQ_n, scopeQ_r, scopeQ_e, Nat.reduceEqDiff, reduceIte]
    | (with_reducible refine And.intro ?_ ?_)
    | with_reducible intro vr)
  all_goals try (intros; (try simp only [Bool.and_eq_true, Bool.or_eq_true, Bool.not_eq_true', decide_eq_true_eq, decide_eq_false_iff_not, beq_iff_eq, bne_iff_ne, ne_eq, inI64, List.length_append] at *) <;> omega)
  all_goals try (intros; (unfold el; omega))
  refine end_ret rfl ?_
  simp only [fin, go_sem, Int.cast_ofNat_Int, Nat.reduceEqDiff, reduceIte, Nat.reduceAdd, Nat.reduceMul, Nat.reduceLeDiff, Nat.reduceSub, Nat.reduceLT, Nat.zero_lt_succ, Int.reduceToNat, Int.reduceAdd, Int.reduceSub, Int.reduceMul, Int.reduceNeg, Int.reduceLT, Int.reduceLE, Int.reduceEq, Int.reduceBEq, Int.reduceBNe, Nat.reduceBEq, List.reduceReplicate]
  exact LeA.refl _
noncomputable def con10 : PCon Try.prog where
  f := 10
  c := fun
    | [] => some (True, .lit (.bool true))
    | _ => none
  ok := by
    intro args p r hc hp
    split at hc
    · cases hc; exact awake_pc
    · cases hc
  fk := fk10
theorem con10_f : con10.f = 10 := rfl
theorem con10_c : con10.c [] = some (True, .lit (.bool true)) := rfl
end Go.Proofs.Ytbmogpafhdbfdaa
