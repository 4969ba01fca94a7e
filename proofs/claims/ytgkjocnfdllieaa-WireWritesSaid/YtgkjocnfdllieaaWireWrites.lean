/- WireWrites: the walk. -/
import Derived.Test.YtgkjocnfdllieaaWD

set_option linter.all false

namespace Go.Proofs.Ytgkjocnfdllieaa
open Go Go.Fw

noncomputable def con17 : PCon Try.prog where
  f := 17
  c := fun
    | [x, .lit (.string s)] => (slK .u8 x).map fun l => (l.length ≤ 800000 ∧ s.size ≤ 90000, .sl false 1 (ints .u8 (l ++ encT s)))
    | _ => none
  ok := by
    intro args p r hc hp
    split at hc
    · rename_i x s
      cases hx : slK .u8 x with
      | none => rw [hx] at hc; cases hc
      | some l =>
        rw [hx] at hc
        cases hc
        exact PC.weak (pc_of_newB fun k hk => wtext_rd rdK_sl hp.1 hp.2 hk) ⟨slK_le hx, LeA.refl _, trivial⟩
    · cases hc
  fk := fk17
theorem con17_f : con17.f = 17 := rfl
theorem con17_c {x : AV} {s : ByteArray} : con17.c [x, .lit (.string s)] = (slK .u8 x).map fun l => (l.length ≤ 800000 ∧ s.size ≤ 90000, .sl false 1 (ints .u8 (l ++ encT s))) := rfl
noncomputable def con19 : PCon Try.prog where
  f := 19
  c := fun
    | [x, .lit (.bool v)] => (slK .u8 x).map fun l => (l.length ≤ 900000, .sl false 1 (ints .u8 (l ++ encB v)))
    | _ => none
  ok := by
    intro args p r hc hp
    split at hc
    · rename_i x v
      cases hx : slK .u8 x with
      | none => rw [hx] at hc; cases hc
      | some l =>
        rw [hx] at hc
        cases hc
        exact PC.weak (pc_of_newB fun k hk => bool_rd rdK_sl hp hk) ⟨slK_le hx, LeA.refl _, trivial⟩
    · cases hc
  fk := fk19
theorem con19_f : con19.f = 19 := rfl
theorem con19_c {x : AV} {v : Bool} : con19.c [x, .lit (.bool v)] = (slK .u8 x).map fun l => (l.length ≤ 900000, .sl false 1 (ints .u8 (l ++ encB v))) := rfl
noncomputable def con20 : PCon Try.prog where
  f := 20
  c := fun
    | [x, .lit (.bool v)] => (slK .u8 x).map fun l => (l.length ≤ 900000, .sl false 1 (ints .u8 (l ++ encB v)))
    | _ => none
  ok := by
    intro args p r hc hp
    split at hc
    · rename_i x v
      cases hx : slK .u8 x with
      | none => rw [hx] at hc; cases hc
      | some l =>
        rw [hx] at hc
        cases hc
        exact PC.weak (rbool_pc hp) ⟨slK_le hx, LeA.refl _, trivial⟩
    · cases hc
  fk := fk20
theorem con20_f : con20.f = 20 := rfl
theorem con20_c {x : AV} {v : Bool} : con20.c [x, .lit (.bool v)] = (slK .u8 x).map fun l => (l.length ≤ 900000, .sl false 1 (ints .u8 (l ++ encB v))) := rfl
noncomputable def con21 : PCon Try.prog where
  f := 21
  c := fun
    | [x, y] => match slK .u8 x, slK .i64 y with
      | some l, some m => some (l.length ≤ 300000 ∧ m.length ≤ 10000 ∧ ∀ n ∈ m, inI64 n, .sl false 1 (ints .u8 (l ++ enc (m.length : Int) ++ encL m)))
      | _, _ => none
    | _ => none
  ok := by
    intro args p r hc hp
    split at hc
    · split at hc
      · rename_i hx hy
        cases hc
        exact PC.weak (pc_of_newB fun k hk => ints_rd rdK_sl hp.1 hp.2.1 hp.2.2 hk) ⟨slK_le hx, slK_le hy, trivial⟩
      · cases hc
    · cases hc
  fk := fk21
theorem con21_f : con21.f = 21 := rfl
theorem con21_c {x y : AV} : con21.c [x, y] = match slK .u8 x, slK .i64 y with
      | some l, some m => some (l.length ≤ 300000 ∧ m.length ≤ 10000 ∧ ∀ n ∈ m, inI64 n, .sl false 1 (ints .u8 (l ++ enc (m.length : Int) ++ encL m)))
      | _, _ => none := rfl
noncomputable def con22 : PCon Try.prog where
  f := 22
  c := fun
    | [x, y] => match slK .u8 x, slK .i64 y with
      | some l, some m => some (l.length ≤ 300000 ∧ m.length ≤ 10000 ∧ ∀ n ∈ m, inI64 n, .sl false 1 (ints .u8 (l ++ enc (m.length : Int) ++ encL m)))
      | _, _ => none
    | _ => none
  ok := by
    intro args p r hc hp
    split at hc
    · split at hc
      · rename_i hx hy
        cases hc
        exact PC.weak (rints_pc hp.1 hp.2.1 hp.2.2) ⟨slK_le hx, slK_le hy, trivial⟩
      · cases hc
    · cases hc
  fk := fk22
theorem con22_f : con22.f = 22 := rfl
theorem con22_c {x y : AV} : con22.c [x, y] = match slK .u8 x, slK .i64 y with
      | some l, some m => some (l.length ≤ 300000 ∧ m.length ≤ 10000 ∧ ∀ n ∈ m, inI64 n, .sl false 1 (ints .u8 (l ++ enc (m.length : Int) ++ encL m)))
      | _, _ => none := rfl
noncomputable def con23 : PCon Try.prog where
  f := 23
  c := fun
    | [x, y] => match slK .u8 x, slS y with
      | some l, some m => some (l.length ≤ 300000 ∧ m.length ≤ 300 ∧ ∀ s ∈ m, s.size ≤ 1000, .sl false 1 (ints .u8 (l ++ enc (m.length : Int) ++ encS m)))
      | _, _ => none
    | _ => none
  ok := by
    intro args p r hc hp
    split at hc
    · split at hc
      · rename_i hx hy
        cases hc
        exact PC.weak (pc_of_newB fun k hk => texts_rd rdK_sl hp.1 hp.2.1 hp.2.2 hk) ⟨slK_le hx, slS_le hy, trivial⟩
      · cases hc
    · cases hc
  fk := fk23
theorem con23_f : con23.f = 23 := rfl
theorem con23_c {x y : AV} : con23.c [x, y] = match slK .u8 x, slS y with
      | some l, some m => some (l.length ≤ 300000 ∧ m.length ≤ 300 ∧ ∀ s ∈ m, s.size ≤ 1000, .sl false 1 (ints .u8 (l ++ enc (m.length : Int) ++ encS m)))
      | _, _ => none := rfl
noncomputable def con24 : PCon Try.prog where
  f := 24
  c := fun
    | [x, y] => match slK .u8 x, slS y with
      | some l, some m => some (l.length ≤ 300000 ∧ m.length ≤ 300 ∧ ∀ s ∈ m, s.size ≤ 1000, .sl false 1 (ints .u8 (l ++ enc (m.length : Int) ++ encS m)))
      | _, _ => none
    | _ => none
  ok := by
    intro args p r hc hp
    split at hc
    · split at hc
      · rename_i hx hy
        cases hc
        exact PC.weak (rtexts_pc hp.1 hp.2.1 hp.2.2) ⟨slK_le hx, slS_le hy, trivial⟩
      · cases hc
    · cases hc
  fk := fk24
theorem con24_f : con24.f = 24 := rfl
theorem con24_c {x y : AV} : con24.c [x, y] = match slK .u8 x, slS y with
      | some l, some m => some (l.length ≤ 300000 ∧ m.length ≤ 300 ∧ ∀ s ∈ m, s.size ≤ 1000, .sl false 1 (ints .u8 (l ++ enc (m.length : Int) ++ encS m)))
      | _, _ => none := rfl
noncomputable def fewCon : PCon Try.prog where
  f := 14
  c := fun
    | [x, .lit (.int .i64 n), .lit (.int .i64 long)] => (slS x).map fun m => (m.length ≤ maxLen, .lit (.bool (few m n long)))
    | _ => none
  ok := by
    intro args p r hc hp
    split at hc
    · rename_i x n long
      cases hx : slS x with
      | none => rw [hx] at hc; cases hc
      | some l =>
        rw [hx] at hc
        cases hc
        exact PC.weak (few_pc hp) ⟨slS_le hx, LeA.refl _, LeA.refl _, trivial⟩
    · cases hc
  fk := fk14
theorem fewCon_f : fewCon.f = 14 := rfl
theorem fewCon_c {x : AV} {n long : Int} : fewCon.c [x, .lit (.int .i64 n), .lit (.int .i64 long)] = (slS x).map fun m => (m.length ≤ maxLen, .lit (.bool (few m n long))) := rfl
theorem few_true {m : List ByteArray} {n long : Int} (h : few m n long = true) : (m.length : Int) ≤ n ∧ ∀ s ∈ m, (s.size : Int) ≤ long := by
  unfold few at h
  simp only [Bool.and_eq_true, List.all_eq_true, decide_eq_true_eq] at h
  exact ⟨h.2, h.1⟩
noncomputable def E26 : Env := envOf (P := Try.prog) zer (fun _ => false) (fun _ => false) [awakeCon, con12, con13, fewCon, con15, sizeCon, con17, con18, con19, con20, con21, con22, con23, con24] []
theorem E26_ok : EnvOk Try.prog E26 := envOk zer_ok
set_option maxHeartbeats 4000000 in
theorem writes_pc {b l : List Int} {t : List ByteArray} (hi : ∀ n ∈ l, inI64 n) (ht : t.length ≤ maxLen) : PC Try.prog 5 [.sl false 1 (ints .u8 b), .sl false 1 (ints .i64 l), .sl false 1 (strs t)] (.lit (.bool true)) := by
  by_cases h1 : b.length > 100
  · have e1 : decide ((b.length : Int) > 100) = true := by simp; omega
    refine pc_of E26_ok mixed (fun _ => [0, 1, 2, 6, 7, 8, 9, 11, 24, 28, 66, 70, 86]) Try.func5 rfl (by kernel_rfl) (Nat.le_of_ble_eq_true rfl) ?_
    simp only [initF_cons, initF_nil, Nat.reduceAdd]
    refine t_name fun KF => ?_
    unfold E26
    repeat' (first
      | with_reducible refine t_seq fun K => ?_
      | with_reducible refine t_block ?_
      | with_reducible refine t_scope ?_
      | with_reducible refine t_label ?_
      | with_reducible refine t_skip ?_
      | with_reducible refine t_exit ?_
      | with_reducible refine t_ret ?_
      | with_reducible refine t_k ?_
      | ((with_reducible refine t_kE ?_); simp only [go_sem, Int.cast_ofNat_Int, Nat.reduceEqDiff, reduceIte, Nat.reduceAdd, Nat.reduceMul, Nat.reduceLeDiff, Nat.reduceSub, Nat.reduceLT, Nat.zero_lt_succ, Int.reduceToNat, Int.reduceAdd, Int.reduceSub, Int.reduceMul, Int.reduceNeg, Int.reduceLT, Int.reduceLE, Int.reduceEq, Int.reduceBEq, Int.reduceBNe, Nat.reduceBEq, List.reduceReplicate, e1, awakeCon_f, awakeCon_c, con12_f, con12_c, con13_f, con13_c, fewCon_f, fewCon_c, con15_f, con15_c, sizeCon_f, sizeCon_c, con17_f, con17_c, con18_f, con18_c, con19_f, con19_c, con20_f, con20_c, con21_f, con21_c, con22_f, con22_c, con23_f, con23_c, con24_f, con24_c, slK_sl, slS_sl, eqS_refl])
      | ((with_reducible refine t_kD ?_); simp only [go_sem, Int.cast_ofNat_Int, Nat.reduceEqDiff, reduceIte, Nat.reduceAdd, Nat.reduceMul, Nat.reduceLeDiff, Nat.reduceSub, Nat.reduceLT, Nat.zero_lt_succ, Int.reduceToNat, Int.reduceAdd, Int.reduceSub, Int.reduceMul, Int.reduceNeg, Int.reduceLT, Int.reduceLE, Int.reduceEq, Int.reduceBEq, Int.reduceBNe, Nat.reduceBEq, List.reduceReplicate, e1, awakeCon_f, awakeCon_c, con12_f, con12_c, con13_f, con13_c, fewCon_f, fewCon_c, con15_f, con15_c, sizeCon_f, sizeCon_c, con17_f, con17_c, con18_f, con18_c, con19_f, con19_c, con20_f, con20_c, con21_f, con21_c, con22_f, con22_c, con23_f, con23_c, con24_f, con24_c, slK_sl, slS_sl, eqS_refl])
      | ((with_reducible refine t_kL ?_); simp only [go_sem, Int.cast_ofNat_Int, Nat.reduceEqDiff, reduceIte, Nat.reduceAdd, Nat.reduceMul, Nat.reduceLeDiff, Nat.reduceSub, Nat.reduceLT, Nat.zero_lt_succ, Int.reduceToNat, Int.reduceAdd, Int.reduceSub, Int.reduceMul, Int.reduceNeg, Int.reduceLT, Int.reduceLE, Int.reduceEq, Int.reduceBEq, Int.reduceBNe, Nat.reduceBEq, List.reduceReplicate, e1, awakeCon_f, awakeCon_c, con12_f, con12_c, con13_f, con13_c, fewCon_f, fewCon_c, con15_f, con15_c, sizeCon_f, sizeCon_c, con17_f, con17_c, con18_f, con18_c, con19_f, con19_c, con20_f, con20_c, con21_f, con21_c, con22_f, con22_c, con23_f, con23_c, con24_f, con24_c, slK_sl, slS_sl, eqS_refl])
      | ((with_reducible refine t_kLE ?_ ?_; rotate_left); simp only [go_sem, Int.cast_ofNat_Int, Nat.reduceEqDiff, reduceIte, Nat.reduceAdd, Nat.reduceMul, Nat.reduceLeDiff, Nat.reduceSub, Nat.reduceLT, Nat.zero_lt_succ, Int.reduceToNat, Int.reduceAdd, Int.reduceSub, Int.reduceMul, Int.reduceNeg, Int.reduceLT, Int.reduceLE, Int.reduceEq, Int.reduceBEq, Int.reduceBNe, Nat.reduceBEq, List.reduceReplicate, e1, awakeCon_f, awakeCon_c, con12_f, con12_c, con13_f, con13_c, fewCon_f, fewCon_c, con15_f, con15_c, sizeCon_f, sizeCon_c, con17_f, con17_c, con18_f, con18_c, con19_f, con19_c, con20_f, con20_c, con21_f, con21_c, con22_f, con22_c, con23_f, con23_c, con24_f, con24_c, slK_sl, slS_sl, eqS_refl])
      | (with_reducible exact kp_nil)
      | (with_reducible exact Kp.refl _)
      | (with_reducible exact kp_to)
      | (with_reducible refine kp_cons ?_)
      | (with_reducible refine kp_arr ?_)
      | (with_reducible refine kp_app ?_)
      | ((with_reducible refine t_region fun K => ?_); simp only [go_sem, Int.cast_ofNat_Int, Nat.reduceEqDiff, reduceIte, Nat.reduceAdd, Nat.reduceMul, Nat.reduceLeDiff, Nat.reduceSub, Nat.reduceLT, Nat.zero_lt_succ, Int.reduceToNat, Int.reduceAdd, Int.reduceSub, Int.reduceMul, Int.reduceNeg, Int.reduceLT, Int.reduceLE, Int.reduceEq, Int.reduceBEq, Int.reduceBNe, Nat.reduceBEq, List.reduceReplicate, e1, awakeCon_f, awakeCon_c, con12_f, con12_c, con13_f, con13_c, fewCon_f, fewCon_c, con15_f, con15_c, sizeCon_f, sizeCon_c, con17_f, con17_c, con18_f, con18_c, con19_f, con19_c, con20_f, con20_c, con21_f, con21_c, con22_f, con22_c, con23_f, con23_c, con24_f, con24_c, slK_sl, slS_sl, eqS_refl])
      | ((with_reducible refine t_draw (by kernel_rfl) fun K => ?_); simp only [go_sem, Int.cast_ofNat_Int, Nat.reduceEqDiff, reduceIte, Nat.reduceAdd, Nat.reduceMul, Nat.reduceLeDiff, Nat.reduceSub, Nat.reduceLT, Nat.zero_lt_succ, Int.reduceToNat, Int.reduceAdd, Int.reduceSub, Int.reduceMul, Int.reduceNeg, Int.reduceLT, Int.reduceLE, Int.reduceEq, Int.reduceBEq, Int.reduceBNe, Nat.reduceBEq, List.reduceReplicate, e1, awakeCon_f, awakeCon_c, con12_f, con12_c, con13_f, con13_c, fewCon_f, fewCon_c, con15_f, con15_c, sizeCon_f, sizeCon_c, con17_f, con17_c, con18_f, con18_c, con19_f, con19_c, con20_f, con20_c, con21_f, con21_c, con22_f, con22_c, con23_f, con23_c, con24_f, con24_c, slK_sl, slS_sl, eqS_refl])
      | ((with_reducible refine t_cond fun A B => ?_); simp only [go_sem, Int.cast_ofNat_Int, Nat.reduceEqDiff, reduceIte, Nat.reduceAdd, Nat.reduceMul, Nat.reduceLeDiff, Nat.reduceSub, Nat.reduceLT, Nat.zero_lt_succ, Int.reduceToNat, Int.reduceAdd, Int.reduceSub, Int.reduceMul, Int.reduceNeg, Int.reduceLT, Int.reduceLE, Int.reduceEq, Int.reduceBEq, Int.reduceBNe, Nat.reduceBEq, List.reduceReplicate, e1, awakeCon_f, awakeCon_c, con12_f, con12_c, con13_f, con13_c, fewCon_f, fewCon_c, con15_f, con15_c, sizeCon_f, sizeCon_c, con17_f, con17_c, con18_f, con18_c, con19_f, con19_c, con20_f, con20_c, con21_f, con21_c, con22_f, con22_c, con23_f, con23_c, con24_f, con24_c, slK_sl, slS_sl, eqS_refl]; first | (with_reducible refine A.h ?_) | (with_reducible refine B.h ?_) | refine And.intro (fun hc => A.h ?_) (fun hc => B.h ?_))
      | simp only [thenQ_n, thenQ_r, thenQ_e, blockQ_n, blockQ_r, blockQ_e, scopeQ_n, scopeQ_r, scopeQ_e, Nat.reduceEqDiff, reduceIte]
      | (with_reducible refine And.intro ?_ ?_)
      | with_reducible intro vr)
    all_goals try (intros; (try simp only [Bool.and_eq_true, Bool.or_eq_true, Bool.not_eq_true', decide_eq_true_eq, decide_eq_false_iff_not, beq_iff_eq, bne_iff_ne, ne_eq, inI64, List.length_append] at *) <;> omega)
    refine end_ret rfl ?_
    simp only [fin, go_sem, Int.cast_ofNat_Int, Nat.reduceEqDiff, reduceIte, Nat.reduceAdd, Nat.reduceMul, Nat.reduceLeDiff, Nat.reduceSub, Nat.reduceLT, Nat.zero_lt_succ, Int.reduceToNat, Int.reduceAdd, Int.reduceSub, Int.reduceMul, Int.reduceNeg, Int.reduceLT, Int.reduceLE, Int.reduceEq, Int.reduceBEq, Int.reduceBNe, Nat.reduceBEq, List.reduceReplicate]
    exact LeA.refl _
  have e1 : decide ((b.length : Int) > 100) = false := by simp; omega
  by_cases h2 : l.length > 20
  · have e2 : decide ((l.length : Int) > 20) = true := by simp; omega
    refine pc_of E26_ok mixed (fun _ => [0, 1, 2, 6, 7, 8, 9, 11, 24, 28, 66, 70, 86]) Try.func5 rfl (by kernel_rfl) (Nat.le_of_ble_eq_true rfl) ?_
    simp only [initF_cons, initF_nil, Nat.reduceAdd]
    refine t_name fun KF => ?_
    unfold E26
    repeat' (first
      | with_reducible refine t_seq fun K => ?_
      | with_reducible refine t_block ?_
      | with_reducible refine t_scope ?_
      | with_reducible refine t_label ?_
      | with_reducible refine t_skip ?_
      | with_reducible refine t_exit ?_
      | with_reducible refine t_ret ?_
      | with_reducible refine t_k ?_
      | ((with_reducible refine t_kE ?_); simp only [go_sem, Int.cast_ofNat_Int, Nat.reduceEqDiff, reduceIte, Nat.reduceAdd, Nat.reduceMul, Nat.reduceLeDiff, Nat.reduceSub, Nat.reduceLT, Nat.zero_lt_succ, Int.reduceToNat, Int.reduceAdd, Int.reduceSub, Int.reduceMul, Int.reduceNeg, Int.reduceLT, Int.reduceLE, Int.reduceEq, Int.reduceBEq, Int.reduceBNe, Nat.reduceBEq, List.reduceReplicate, e1, e2, awakeCon_f, awakeCon_c, con12_f, con12_c, con13_f, con13_c, fewCon_f, fewCon_c, con15_f, con15_c, sizeCon_f, sizeCon_c, con17_f, con17_c, con18_f, con18_c, con19_f, con19_c, con20_f, con20_c, con21_f, con21_c, con22_f, con22_c, con23_f, con23_c, con24_f, con24_c, slK_sl, slS_sl, eqS_refl])
      | ((with_reducible refine t_kD ?_); simp only [go_sem, Int.cast_ofNat_Int, Nat.reduceEqDiff, reduceIte, Nat.reduceAdd, Nat.reduceMul, Nat.reduceLeDiff, Nat.reduceSub, Nat.reduceLT, Nat.zero_lt_succ, Int.reduceToNat, Int.reduceAdd, Int.reduceSub, Int.reduceMul, Int.reduceNeg, Int.reduceLT, Int.reduceLE, Int.reduceEq, Int.reduceBEq, Int.reduceBNe, Nat.reduceBEq, List.reduceReplicate, e1, e2, awakeCon_f, awakeCon_c, con12_f, con12_c, con13_f, con13_c, fewCon_f, fewCon_c, con15_f, con15_c, sizeCon_f, sizeCon_c, con17_f, con17_c, con18_f, con18_c, con19_f, con19_c, con20_f, con20_c, con21_f, con21_c, con22_f, con22_c, con23_f, con23_c, con24_f, con24_c, slK_sl, slS_sl, eqS_refl])
      | ((with_reducible refine t_kL ?_); simp only [go_sem, Int.cast_ofNat_Int, Nat.reduceEqDiff, reduceIte, Nat.reduceAdd, Nat.reduceMul, Nat.reduceLeDiff, Nat.reduceSub, Nat.reduceLT, Nat.zero_lt_succ, Int.reduceToNat, Int.reduceAdd, Int.reduceSub, Int.reduceMul, Int.reduceNeg, Int.reduceLT, Int.reduceLE, Int.reduceEq, Int.reduceBEq, Int.reduceBNe, Nat.reduceBEq, List.reduceReplicate, e1, e2, awakeCon_f, awakeCon_c, con12_f, con12_c, con13_f, con13_c, fewCon_f, fewCon_c, con15_f, con15_c, sizeCon_f, sizeCon_c, con17_f, con17_c, con18_f, con18_c, con19_f, con19_c, con20_f, con20_c, con21_f, con21_c, con22_f, con22_c, con23_f, con23_c, con24_f, con24_c, slK_sl, slS_sl, eqS_refl])
      | ((with_reducible refine t_kLE ?_ ?_; rotate_left); simp only [go_sem, Int.cast_ofNat_Int, Nat.reduceEqDiff, reduceIte, Nat.reduceAdd, Nat.reduceMul, Nat.reduceLeDiff, Nat.reduceSub, Nat.reduceLT, Nat.zero_lt_succ, Int.reduceToNat, Int.reduceAdd, Int.reduceSub, Int.reduceMul, Int.reduceNeg, Int.reduceLT, Int.reduceLE, Int.reduceEq, Int.reduceBEq, Int.reduceBNe, Nat.reduceBEq, List.reduceReplicate, e1, e2, awakeCon_f, awakeCon_c, con12_f, con12_c, con13_f, con13_c, fewCon_f, fewCon_c, con15_f, con15_c, sizeCon_f, sizeCon_c, con17_f, con17_c, con18_f, con18_c, con19_f, con19_c, con20_f, con20_c, con21_f, con21_c, con22_f, con22_c, con23_f, con23_c, con24_f, con24_c, slK_sl, slS_sl, eqS_refl])
      | (with_reducible exact kp_nil)
      | (with_reducible exact Kp.refl _)
      | (with_reducible exact kp_to)
      | (with_reducible refine kp_cons ?_)
      | (with_reducible refine kp_arr ?_)
      | (with_reducible refine kp_app ?_)
      | ((with_reducible refine t_region fun K => ?_); simp only [go_sem, Int.cast_ofNat_Int, Nat.reduceEqDiff, reduceIte, Nat.reduceAdd, Nat.reduceMul, Nat.reduceLeDiff, Nat.reduceSub, Nat.reduceLT, Nat.zero_lt_succ, Int.reduceToNat, Int.reduceAdd, Int.reduceSub, Int.reduceMul, Int.reduceNeg, Int.reduceLT, Int.reduceLE, Int.reduceEq, Int.reduceBEq, Int.reduceBNe, Nat.reduceBEq, List.reduceReplicate, e1, e2, awakeCon_f, awakeCon_c, con12_f, con12_c, con13_f, con13_c, fewCon_f, fewCon_c, con15_f, con15_c, sizeCon_f, sizeCon_c, con17_f, con17_c, con18_f, con18_c, con19_f, con19_c, con20_f, con20_c, con21_f, con21_c, con22_f, con22_c, con23_f, con23_c, con24_f, con24_c, slK_sl, slS_sl, eqS_refl])
      | ((with_reducible refine t_draw (by kernel_rfl) fun K => ?_); simp only [go_sem, Int.cast_ofNat_Int, Nat.reduceEqDiff, reduceIte, Nat.reduceAdd, Nat.reduceMul, Nat.reduceLeDiff, Nat.reduceSub, Nat.reduceLT, Nat.zero_lt_succ, Int.reduceToNat, Int.reduceAdd, Int.reduceSub, Int.reduceMul, Int.reduceNeg, Int.reduceLT, Int.reduceLE, Int.reduceEq, Int.reduceBEq, Int.reduceBNe, Nat.reduceBEq, List.reduceReplicate, e1, e2, awakeCon_f, awakeCon_c, con12_f, con12_c, con13_f, con13_c, fewCon_f, fewCon_c, con15_f, con15_c, sizeCon_f, sizeCon_c, con17_f, con17_c, con18_f, con18_c, con19_f, con19_c, con20_f, con20_c, con21_f, con21_c, con22_f, con22_c, con23_f, con23_c, con24_f, con24_c, slK_sl, slS_sl, eqS_refl])
      | ((with_reducible refine t_cond fun A B => ?_); simp only [go_sem, Int.cast_ofNat_Int, Nat.reduceEqDiff, reduceIte, Nat.reduceAdd, Nat.reduceMul, Nat.reduceLeDiff, Nat.reduceSub, Nat.reduceLT, Nat.zero_lt_succ, Int.reduceToNat, Int.reduceAdd, Int.reduceSub, Int.reduceMul, Int.reduceNeg, Int.reduceLT, Int.reduceLE, Int.reduceEq, Int.reduceBEq, Int.reduceBNe, Nat.reduceBEq, List.reduceReplicate, e1, e2, awakeCon_f, awakeCon_c, con12_f, con12_c, con13_f, con13_c, fewCon_f, fewCon_c, con15_f, con15_c, sizeCon_f, sizeCon_c, con17_f, con17_c, con18_f, con18_c, con19_f, con19_c, con20_f, con20_c, con21_f, con21_c, con22_f, con22_c, con23_f, con23_c, con24_f, con24_c, slK_sl, slS_sl, eqS_refl]; first | (with_reducible refine A.h ?_) | (with_reducible refine B.h ?_) | refine And.intro (fun hc => A.h ?_) (fun hc => B.h ?_))
      | simp only [thenQ_n, thenQ_r, thenQ_e, blockQ_n, blockQ_r, blockQ_e, scopeQ_n, scopeQ_r, scopeQ_e, Nat.reduceEqDiff, reduceIte]
      | (with_reducible refine And.intro ?_ ?_)
      | with_reducible intro vr)
    all_goals try (intros; (try simp only [Bool.and_eq_true, Bool.or_eq_true, Bool.not_eq_true', decide_eq_true_eq, decide_eq_false_iff_not, beq_iff_eq, bne_iff_ne, ne_eq, inI64, List.length_append] at *) <;> omega)
    refine end_ret rfl ?_
    simp only [fin, go_sem, Int.cast_ofNat_Int, Nat.reduceEqDiff, reduceIte, Nat.reduceAdd, Nat.reduceMul, Nat.reduceLeDiff, Nat.reduceSub, Nat.reduceLT, Nat.zero_lt_succ, Int.reduceToNat, Int.reduceAdd, Int.reduceSub, Int.reduceMul, Int.reduceNeg, Int.reduceLT, Int.reduceLE, Int.reduceEq, Int.reduceBEq, Int.reduceBNe, Nat.reduceBEq, List.reduceReplicate]
    exact LeA.refl _
  have e2 : decide ((l.length : Int) > 20) = false := by simp; omega
  by_cases h3 : few t 20 100 = false
  · skip
    refine pc_of E26_ok mixed (fun _ => [0, 1, 2, 6, 7, 8, 9, 11, 24, 28, 66, 70, 86]) Try.func5 rfl (by kernel_rfl) (Nat.le_of_ble_eq_true rfl) ?_
    simp only [initF_cons, initF_nil, Nat.reduceAdd]
    refine t_name fun KF => ?_
    unfold E26
    repeat' (first
      | with_reducible refine t_seq fun K => ?_
      | with_reducible refine t_block ?_
      | with_reducible refine t_scope ?_
      | with_reducible refine t_label ?_
      | with_reducible refine t_skip ?_
      | with_reducible refine t_exit ?_
      | with_reducible refine t_ret ?_
      | with_reducible refine t_k ?_
      | ((with_reducible refine t_kE ?_); simp only [go_sem, Int.cast_ofNat_Int, Nat.reduceEqDiff, reduceIte, Nat.reduceAdd, Nat.reduceMul, Nat.reduceLeDiff, Nat.reduceSub, Nat.reduceLT, Nat.zero_lt_succ, Int.reduceToNat, Int.reduceAdd, Int.reduceSub, Int.reduceMul, Int.reduceNeg, Int.reduceLT, Int.reduceLE, Int.reduceEq, Int.reduceBEq, Int.reduceBNe, Nat.reduceBEq, List.reduceReplicate, e1, e2, h3, ht, awakeCon_f, awakeCon_c, con12_f, con12_c, con13_f, con13_c, fewCon_f, fewCon_c, con15_f, con15_c, sizeCon_f, sizeCon_c, con17_f, con17_c, con18_f, con18_c, con19_f, con19_c, con20_f, con20_c, con21_f, con21_c, con22_f, con22_c, con23_f, con23_c, con24_f, con24_c, slK_sl, slS_sl, eqS_refl])
      | ((with_reducible refine t_kD ?_); simp only [go_sem, Int.cast_ofNat_Int, Nat.reduceEqDiff, reduceIte, Nat.reduceAdd, Nat.reduceMul, Nat.reduceLeDiff, Nat.reduceSub, Nat.reduceLT, Nat.zero_lt_succ, Int.reduceToNat, Int.reduceAdd, Int.reduceSub, Int.reduceMul, Int.reduceNeg, Int.reduceLT, Int.reduceLE, Int.reduceEq, Int.reduceBEq, Int.reduceBNe, Nat.reduceBEq, List.reduceReplicate, e1, e2, h3, ht, awakeCon_f, awakeCon_c, con12_f, con12_c, con13_f, con13_c, fewCon_f, fewCon_c, con15_f, con15_c, sizeCon_f, sizeCon_c, con17_f, con17_c, con18_f, con18_c, con19_f, con19_c, con20_f, con20_c, con21_f, con21_c, con22_f, con22_c, con23_f, con23_c, con24_f, con24_c, slK_sl, slS_sl, eqS_refl])
      | ((with_reducible refine t_kL ?_); simp only [go_sem, Int.cast_ofNat_Int, Nat.reduceEqDiff, reduceIte, Nat.reduceAdd, Nat.reduceMul, Nat.reduceLeDiff, Nat.reduceSub, Nat.reduceLT, Nat.zero_lt_succ, Int.reduceToNat, Int.reduceAdd, Int.reduceSub, Int.reduceMul, Int.reduceNeg, Int.reduceLT, Int.reduceLE, Int.reduceEq, Int.reduceBEq, Int.reduceBNe, Nat.reduceBEq, List.reduceReplicate, e1, e2, h3, ht, awakeCon_f, awakeCon_c, con12_f, con12_c, con13_f, con13_c, fewCon_f, fewCon_c, con15_f, con15_c, sizeCon_f, sizeCon_c, con17_f, con17_c, con18_f, con18_c, con19_f, con19_c, con20_f, con20_c, con21_f, con21_c, con22_f, con22_c, con23_f, con23_c, con24_f, con24_c, slK_sl, slS_sl, eqS_refl])
      | ((with_reducible refine t_kLE ?_ ?_; rotate_left); simp only [go_sem, Int.cast_ofNat_Int, Nat.reduceEqDiff, reduceIte, Nat.reduceAdd, Nat.reduceMul, Nat.reduceLeDiff, Nat.reduceSub, Nat.reduceLT, Nat.zero_lt_succ, Int.reduceToNat, Int.reduceAdd, Int.reduceSub, Int.reduceMul, Int.reduceNeg, Int.reduceLT, Int.reduceLE, Int.reduceEq, Int.reduceBEq, Int.reduceBNe, Nat.reduceBEq, List.reduceReplicate, e1, e2, h3, ht, awakeCon_f, awakeCon_c, con12_f, con12_c, con13_f, con13_c, fewCon_f, fewCon_c, con15_f, con15_c, sizeCon_f, sizeCon_c, con17_f, con17_c, con18_f, con18_c, con19_f, con19_c, con20_f, con20_c, con21_f, con21_c, con22_f, con22_c, con23_f, con23_c, con24_f, con24_c, slK_sl, slS_sl, eqS_refl])
      | (with_reducible exact kp_nil)
      | (with_reducible exact Kp.refl _)
      | (with_reducible exact kp_to)
      | (with_reducible refine kp_cons ?_)
      | (with_reducible refine kp_arr ?_)
      | (with_reducible refine kp_app ?_)
      | ((with_reducible refine t_region fun K => ?_); simp only [go_sem, Int.cast_ofNat_Int, Nat.reduceEqDiff, reduceIte, Nat.reduceAdd, Nat.reduceMul, Nat.reduceLeDiff, Nat.reduceSub, Nat.reduceLT, Nat.zero_lt_succ, Int.reduceToNat, Int.reduceAdd, Int.reduceSub, Int.reduceMul, Int.reduceNeg, Int.reduceLT, Int.reduceLE, Int.reduceEq, Int.reduceBEq, Int.reduceBNe, Nat.reduceBEq, List.reduceReplicate, e1, e2, h3, ht, awakeCon_f, awakeCon_c, con12_f, con12_c, con13_f, con13_c, fewCon_f, fewCon_c, con15_f, con15_c, sizeCon_f, sizeCon_c, con17_f, con17_c, con18_f, con18_c, con19_f, con19_c, con20_f, con20_c, con21_f, con21_c, con22_f, con22_c, con23_f, con23_c, con24_f, con24_c, slK_sl, slS_sl, eqS_refl])
      | ((with_reducible refine t_draw (by kernel_rfl) fun K => ?_); simp only [go_sem, Int.cast_ofNat_Int, Nat.reduceEqDiff, reduceIte, Nat.reduceAdd, Nat.reduceMul, Nat.reduceLeDiff, Nat.reduceSub, Nat.reduceLT, Nat.zero_lt_succ, Int.reduceToNat, Int.reduceAdd, Int.reduceSub, Int.reduceMul, Int.reduceNeg, Int.reduceLT, Int.reduceLE, Int.reduceEq, Int.reduceBEq, Int.reduceBNe, Nat.reduceBEq, List.reduceReplicate, e1, e2, h3, ht, awakeCon_f, awakeCon_c, con12_f, con12_c, con13_f, con13_c, fewCon_f, fewCon_c, con15_f, con15_c, sizeCon_f, sizeCon_c, con17_f, con17_c, con18_f, con18_c, con19_f, con19_c, con20_f, con20_c, con21_f, con21_c, con22_f, con22_c, con23_f, con23_c, con24_f, con24_c, slK_sl, slS_sl, eqS_refl])
      | ((with_reducible refine t_cond fun A B => ?_); simp only [go_sem, Int.cast_ofNat_Int, Nat.reduceEqDiff, reduceIte, Nat.reduceAdd, Nat.reduceMul, Nat.reduceLeDiff, Nat.reduceSub, Nat.reduceLT, Nat.zero_lt_succ, Int.reduceToNat, Int.reduceAdd, Int.reduceSub, Int.reduceMul, Int.reduceNeg, Int.reduceLT, Int.reduceLE, Int.reduceEq, Int.reduceBEq, Int.reduceBNe, Nat.reduceBEq, List.reduceReplicate, e1, e2, h3, ht, awakeCon_f, awakeCon_c, con12_f, con12_c, con13_f, con13_c, fewCon_f, fewCon_c, con15_f, con15_c, sizeCon_f, sizeCon_c, con17_f, con17_c, con18_f, con18_c, con19_f, con19_c, con20_f, con20_c, con21_f, con21_c, con22_f, con22_c, con23_f, con23_c, con24_f, con24_c, slK_sl, slS_sl, eqS_refl]; first | (with_reducible refine A.h ?_) | (with_reducible refine B.h ?_) | refine And.intro (fun hc => A.h ?_) (fun hc => B.h ?_))
      | simp only [thenQ_n, thenQ_r, thenQ_e, blockQ_n, blockQ_r, blockQ_e, scopeQ_n, scopeQ_r, scopeQ_e, Nat.reduceEqDiff, reduceIte]
      | (with_reducible refine And.intro ?_ ?_)
      | with_reducible intro vr)
    all_goals try (intros; (try simp only [Bool.and_eq_true, Bool.or_eq_true, Bool.not_eq_true', decide_eq_true_eq, decide_eq_false_iff_not, beq_iff_eq, bne_iff_ne, ne_eq, inI64, List.length_append] at *) <;> omega)
    refine end_ret rfl ?_
    simp only [fin, go_sem, Int.cast_ofNat_Int, Nat.reduceEqDiff, reduceIte, Nat.reduceAdd, Nat.reduceMul, Nat.reduceLeDiff, Nat.reduceSub, Nat.reduceLT, Nat.zero_lt_succ, Int.reduceToNat, Int.reduceAdd, Int.reduceSub, Int.reduceMul, Int.reduceNeg, Int.reduceLT, Int.reduceLE, Int.reduceEq, Int.reduceBEq, Int.reduceBNe, Nat.reduceBEq, List.reduceReplicate]
    exact LeA.refl _
  have e3 : few t 20 100 = true := by simpa using h3
  obtain ⟨t1, t2⟩ := few_true e3
  have t3 : ∀ s ∈ t, s.size ≤ 1000 := fun s hs => by have := t2 s hs; omega
  refine pc_of E26_ok mixed (fun _ => [0, 1, 2, 6, 7, 8, 9, 11, 24, 28, 66, 70, 86]) Try.func5 rfl (by kernel_rfl) (Nat.le_of_ble_eq_true rfl) ?_
  simp only [initF_cons, initF_nil, Nat.reduceAdd]
  refine t_name fun KF => ?_
  unfold E26
  repeat' (first
    | with_reducible refine t_seq fun K => ?_
    | with_reducible refine t_block ?_
    | with_reducible refine t_scope ?_
    | with_reducible refine t_label ?_
    | with_reducible refine t_skip ?_
    | with_reducible refine t_exit ?_
    | with_reducible refine t_ret ?_
    | with_reducible refine t_k ?_
    | ((with_reducible refine t_kE ?_); simp only [go_sem, Int.cast_ofNat_Int, Nat.reduceEqDiff, reduceIte, Nat.reduceAdd, Nat.reduceMul, Nat.reduceLeDiff, Nat.reduceSub, Nat.reduceLT, Nat.zero_lt_succ, Int.reduceToNat, Int.reduceAdd, Int.reduceSub, Int.reduceMul, Int.reduceNeg, Int.reduceLT, Int.reduceLE, Int.reduceEq, Int.reduceBEq, Int.reduceBNe, Nat.reduceBEq, List.reduceReplicate, e1, e2, e3, ht, awakeCon_f, awakeCon_c, con12_f, con12_c, con13_f, con13_c, fewCon_f, fewCon_c, con15_f, con15_c, sizeCon_f, sizeCon_c, con17_f, con17_c, con18_f, con18_c, con19_f, con19_c, con20_f, con20_c, con21_f, con21_c, con22_f, con22_c, con23_f, con23_c, con24_f, con24_c, slK_sl, slS_sl, eqS_refl])
    | ((with_reducible refine t_kD ?_); simp only [go_sem, Int.cast_ofNat_Int, Nat.reduceEqDiff, reduceIte, Nat.reduceAdd, Nat.reduceMul, Nat.reduceLeDiff, Nat.reduceSub, Nat.reduceLT, Nat.zero_lt_succ, Int.reduceToNat, Int.reduceAdd, Int.reduceSub, Int.reduceMul, Int.reduceNeg, Int.reduceLT, Int.reduceLE, Int.reduceEq, Int.reduceBEq, Int.reduceBNe, Nat.reduceBEq, List.reduceReplicate, e1, e2, e3, ht, awakeCon_f, awakeCon_c, con12_f, con12_c, con13_f, con13_c, fewCon_f, fewCon_c, con15_f, con15_c, sizeCon_f, sizeCon_c, con17_f, con17_c, con18_f, con18_c, con19_f, con19_c, con20_f, con20_c, con21_f, con21_c, con22_f, con22_c, con23_f, con23_c, con24_f, con24_c, slK_sl, slS_sl, eqS_refl])
    | ((with_reducible refine t_kL ?_); simp only [go_sem, Int.cast_ofNat_Int, Nat.reduceEqDiff, reduceIte, Nat.reduceAdd, Nat.reduceMul, Nat.reduceLeDiff, Nat.reduceSub, Nat.reduceLT, Nat.zero_lt_succ, Int.reduceToNat, Int.reduceAdd, Int.reduceSub, Int.reduceMul, Int.reduceNeg, Int.reduceLT, Int.reduceLE, Int.reduceEq, Int.reduceBEq, Int.reduceBNe, Nat.reduceBEq, List.reduceReplicate, e1, e2, e3, ht, awakeCon_f, awakeCon_c, con12_f, con12_c, con13_f, con13_c, fewCon_f, fewCon_c, con15_f, con15_c, sizeCon_f, sizeCon_c, con17_f, con17_c, con18_f, con18_c, con19_f, con19_c, con20_f, con20_c, con21_f, con21_c, con22_f, con22_c, con23_f, con23_c, con24_f, con24_c, slK_sl, slS_sl, eqS_refl])
    | ((with_reducible refine t_kLE ?_ ?_; rotate_left); simp only [go_sem, Int.cast_ofNat_Int, Nat.reduceEqDiff, reduceIte, Nat.reduceAdd, Nat.reduceMul, Nat.reduceLeDiff, Nat.reduceSub, Nat.reduceLT, Nat.zero_lt_succ, Int.reduceToNat, Int.reduceAdd, Int.reduceSub, Int.reduceMul, Int.reduceNeg, Int.reduceLT, Int.reduceLE, Int.reduceEq, Int.reduceBEq, Int.reduceBNe, Nat.reduceBEq, List.reduceReplicate, e1, e2, e3, ht, awakeCon_f, awakeCon_c, con12_f, con12_c, con13_f, con13_c, fewCon_f, fewCon_c, con15_f, con15_c, sizeCon_f, sizeCon_c, con17_f, con17_c, con18_f, con18_c, con19_f, con19_c, con20_f, con20_c, con21_f, con21_c, con22_f, con22_c, con23_f, con23_c, con24_f, con24_c, slK_sl, slS_sl, eqS_refl])
    | (with_reducible exact kp_nil)
    | (with_reducible exact Kp.refl _)
    | (with_reducible exact kp_to)
    | (with_reducible refine kp_cons ?_)
    | (with_reducible refine kp_arr ?_)
    | (with_reducible refine kp_app ?_)
    | ((with_reducible refine t_region fun K => ?_); simp only [go_sem, Int.cast_ofNat_Int, Nat.reduceEqDiff, reduceIte, Nat.reduceAdd, Nat.reduceMul, Nat.reduceLeDiff, Nat.reduceSub, Nat.reduceLT, Nat.zero_lt_succ, Int.reduceToNat, Int.reduceAdd, Int.reduceSub, Int.reduceMul, Int.reduceNeg, Int.reduceLT, Int.reduceLE, Int.reduceEq, Int.reduceBEq, Int.reduceBNe, Nat.reduceBEq, List.reduceReplicate, e1, e2, e3, ht, awakeCon_f, awakeCon_c, con12_f, con12_c, con13_f, con13_c, fewCon_f, fewCon_c, con15_f, con15_c, sizeCon_f, sizeCon_c, con17_f, con17_c, con18_f, con18_c, con19_f, con19_c, con20_f, con20_c, con21_f, con21_c, con22_f, con22_c, con23_f, con23_c, con24_f, con24_c, slK_sl, slS_sl, eqS_refl])
    | ((with_reducible refine t_draw (by kernel_rfl) fun K => ?_); simp only [go_sem, Int.cast_ofNat_Int, Nat.reduceEqDiff, reduceIte, Nat.reduceAdd, Nat.reduceMul, Nat.reduceLeDiff, Nat.reduceSub, Nat.reduceLT, Nat.zero_lt_succ, Int.reduceToNat, Int.reduceAdd, Int.reduceSub, Int.reduceMul, Int.reduceNeg, Int.reduceLT, Int.reduceLE, Int.reduceEq, Int.reduceBEq, Int.reduceBNe, Nat.reduceBEq, List.reduceReplicate, e1, e2, e3, ht, awakeCon_f, awakeCon_c, con12_f, con12_c, con13_f, con13_c, fewCon_f, fewCon_c, con15_f, con15_c, sizeCon_f, sizeCon_c, con17_f, con17_c, con18_f, con18_c, con19_f, con19_c, con20_f, con20_c, con21_f, con21_c, con22_f, con22_c, con23_f, con23_c, con24_f, con24_c, slK_sl, slS_sl, eqS_refl])
    | ((with_reducible refine t_cond fun A B => ?_); simp only [go_sem, Int.cast_ofNat_Int, Nat.reduceEqDiff, reduceIte, Nat.reduceAdd, Nat.reduceMul, Nat.reduceLeDiff, Nat.reduceSub, Nat.reduceLT, Nat.zero_lt_succ, Int.reduceToNat, Int.reduceAdd, Int.reduceSub, Int.reduceMul, Int.reduceNeg, Int.reduceLT, Int.reduceLE, Int.reduceEq, Int.reduceBEq, Int.reduceBNe, Nat.reduceBEq, List.reduceReplicate, e1, e2, e3, ht, awakeCon_f, awakeCon_c, con12_f, con12_c, con13_f, con13_c, fewCon_f, fewCon_c, con15_f, con15_c, sizeCon_f, sizeCon_c, con17_f, con17_c, con18_f, con18_c, con19_f, con19_c, con20_f, con20_c, con21_f, con21_c, con22_f, con22_c, con23_f, con23_c, con24_f, con24_c, slK_sl, slS_sl, eqS_refl]; first | (with_reducible refine A.h ?_) | (with_reducible refine B.h ?_) | refine And.intro (fun hc => A.h ?_) (fun hc => B.h ?_))
    | simp only [thenQ_n, thenQ_r, thenQ_e, blockQ_n, blockQ_r, blockQ_e, scopeQ_n, scopeQ_r, scopeQ_e, Nat.reduceEqDiff, reduceIte]
    | (with_reducible refine And.intro ?_ ?_)
    | with_reducible intro vr)
  all_goals try (intros; (try simp only [Bool.and_eq_true, Bool.or_eq_true, Bool.not_eq_true', decide_eq_true_eq, decide_eq_false_iff_not, beq_iff_eq, bne_iff_ne, ne_eq, inI64, List.length_append] at *) <;> omega)
  refine t_loop (ι := { i : Nat // i ≤ l.length }) (fun i => ⟨upd (upd (upd (upd topF 7 (.lit (.int .i64 i.1))) 2 (.sl false 1 (strs t))) 1 (.sl false 1 (ints .i64 l))) 0 (.sl false 1 (ints .u8 b)), []⟩) (fun i => l.length - i.1) ⟨0, by omega⟩ ?_ ?_
  · skip
    (refine Le.frame ?_; repeat' (first | exact leF_top _ | (with_reducible refine leF_sl ?_ ?_) | (refine leF_upd (LeR.of_eq ?_) ?_))) <;> (try (simp only [go_sem, Int.cast_ofNat_Int, Nat.reduceEqDiff, reduceIte, Nat.reduceAdd, Nat.reduceMul, Nat.reduceLeDiff, Nat.reduceSub, Nat.reduceLT, Nat.zero_lt_succ, Int.reduceToNat, Int.reduceAdd, Int.reduceSub, Int.reduceMul, Int.reduceNeg, Int.reduceLT, Int.reduceLE, Int.reduceEq, Int.reduceBEq, Int.reduceBNe, Nat.reduceBEq, List.reduceReplicate]; try rfl))
  rintro ⟨i, hi'⟩ K0
  rcases Nat.lt_or_ge i l.length with hc | hc
  · have f1 : decide ((i : Int) < (l.length : Int)) = true := by simp; omega
    have hel := ints_getD .i64 l i hc
    have hin : inI64 (l.getD i 0) := hi _ (by rw [getD_elem _ _ hc]; exact List.getElem_mem hc)
    have hen := enc_len (l.getD i 0)
    have f2 : (((enc (l.getD i 0)).length : Int) != ((b.length + (enc (l.getD i 0)).length : Nat) : Int) - (b.length : Int)) = false := by rw [bne_eq_false_iff_eq]; omega
    have f2' : (((enc (l.getD i 0)).length : Int) != ((b.length : Int) + ((enc (l.getD i 0)).length : Int)) - (b.length : Int)) = false := by rw [bne_eq_false_iff_eq]; omega
    have f3 : decide (((enc (l.getD i 0)).length : Int) > 9) = false := decide_eq_false (by omega)
    repeat' (first
      | with_reducible refine t_seq fun K => ?_
      | with_reducible refine t_block ?_
      | with_reducible refine t_scope ?_
      | with_reducible refine t_label ?_
      | with_reducible refine t_skip ?_
      | with_reducible refine t_exit ?_
      | with_reducible refine t_ret ?_
      | with_reducible refine t_k ?_
      | ((with_reducible refine t_kE ?_); simp only [go_sem, Int.cast_ofNat_Int, Nat.reduceEqDiff, reduceIte, Nat.reduceAdd, Nat.reduceMul, Nat.reduceLeDiff, Nat.reduceSub, Nat.reduceLT, Nat.zero_lt_succ, Int.reduceToNat, Int.reduceAdd, Int.reduceSub, Int.reduceMul, Int.reduceNeg, Int.reduceLT, Int.reduceLE, Int.reduceEq, Int.reduceBEq, Int.reduceBNe, Nat.reduceBEq, List.reduceReplicate, f1, Int.toNat_natCast, hel, hin, f2, f2', f3, Int.natCast_add, awakeCon_f, awakeCon_c, con12_f, con12_c, con13_f, con13_c, fewCon_f, fewCon_c, con15_f, con15_c, sizeCon_f, sizeCon_c, con17_f, con17_c, con18_f, con18_c, con19_f, con19_c, con20_f, con20_c, con21_f, con21_c, con22_f, con22_c, con23_f, con23_c, con24_f, con24_c, slK_sl, slS_sl, eqS_refl])
      | ((with_reducible refine t_kD ?_); simp only [go_sem, Int.cast_ofNat_Int, Nat.reduceEqDiff, reduceIte, Nat.reduceAdd, Nat.reduceMul, Nat.reduceLeDiff, Nat.reduceSub, Nat.reduceLT, Nat.zero_lt_succ, Int.reduceToNat, Int.reduceAdd, Int.reduceSub, Int.reduceMul, Int.reduceNeg, Int.reduceLT, Int.reduceLE, Int.reduceEq, Int.reduceBEq, Int.reduceBNe, Nat.reduceBEq, List.reduceReplicate, f1, Int.toNat_natCast, hel, hin, f2, f2', f3, Int.natCast_add, awakeCon_f, awakeCon_c, con12_f, con12_c, con13_f, con13_c, fewCon_f, fewCon_c, con15_f, con15_c, sizeCon_f, sizeCon_c, con17_f, con17_c, con18_f, con18_c, con19_f, con19_c, con20_f, con20_c, con21_f, con21_c, con22_f, con22_c, con23_f, con23_c, con24_f, con24_c, slK_sl, slS_sl, eqS_refl])
      | ((with_reducible refine t_kL ?_); simp only [go_sem, Int.cast_ofNat_Int, Nat.reduceEqDiff, reduceIte, Nat.reduceAdd, Nat.reduceMul, Nat.reduceLeDiff, Nat.reduceSub, Nat.reduceLT, Nat.zero_lt_succ, Int.reduceToNat, Int.reduceAdd, Int.reduceSub, Int.reduceMul, Int.reduceNeg, Int.reduceLT, Int.reduceLE, Int.reduceEq, Int.reduceBEq, Int.reduceBNe, Nat.reduceBEq, List.reduceReplicate, f1, Int.toNat_natCast, hel, hin, f2, f2', f3, Int.natCast_add, awakeCon_f, awakeCon_c, con12_f, con12_c, con13_f, con13_c, fewCon_f, fewCon_c, con15_f, con15_c, sizeCon_f, sizeCon_c, con17_f, con17_c, con18_f, con18_c, con19_f, con19_c, con20_f, con20_c, con21_f, con21_c, con22_f, con22_c, con23_f, con23_c, con24_f, con24_c, slK_sl, slS_sl, eqS_refl])
      | ((with_reducible refine t_kLE ?_ ?_; rotate_left); simp only [go_sem, Int.cast_ofNat_Int, Nat.reduceEqDiff, reduceIte, Nat.reduceAdd, Nat.reduceMul, Nat.reduceLeDiff, Nat.reduceSub, Nat.reduceLT, Nat.zero_lt_succ, Int.reduceToNat, Int.reduceAdd, Int.reduceSub, Int.reduceMul, Int.reduceNeg, Int.reduceLT, Int.reduceLE, Int.reduceEq, Int.reduceBEq, Int.reduceBNe, Nat.reduceBEq, List.reduceReplicate, f1, Int.toNat_natCast, hel, hin, f2, f2', f3, Int.natCast_add, awakeCon_f, awakeCon_c, con12_f, con12_c, con13_f, con13_c, fewCon_f, fewCon_c, con15_f, con15_c, sizeCon_f, sizeCon_c, con17_f, con17_c, con18_f, con18_c, con19_f, con19_c, con20_f, con20_c, con21_f, con21_c, con22_f, con22_c, con23_f, con23_c, con24_f, con24_c, slK_sl, slS_sl, eqS_refl])
      | (with_reducible exact kp_nil)
      | (with_reducible exact Kp.refl _)
      | (with_reducible exact kp_to)
      | (with_reducible refine kp_cons ?_)
      | (with_reducible refine kp_arr ?_)
      | (with_reducible refine kp_app ?_)
      | ((with_reducible refine t_region fun K => ?_); simp only [go_sem, Int.cast_ofNat_Int, Nat.reduceEqDiff, reduceIte, Nat.reduceAdd, Nat.reduceMul, Nat.reduceLeDiff, Nat.reduceSub, Nat.reduceLT, Nat.zero_lt_succ, Int.reduceToNat, Int.reduceAdd, Int.reduceSub, Int.reduceMul, Int.reduceNeg, Int.reduceLT, Int.reduceLE, Int.reduceEq, Int.reduceBEq, Int.reduceBNe, Nat.reduceBEq, List.reduceReplicate, f1, Int.toNat_natCast, hel, hin, f2, f2', f3, Int.natCast_add, awakeCon_f, awakeCon_c, con12_f, con12_c, con13_f, con13_c, fewCon_f, fewCon_c, con15_f, con15_c, sizeCon_f, sizeCon_c, con17_f, con17_c, con18_f, con18_c, con19_f, con19_c, con20_f, con20_c, con21_f, con21_c, con22_f, con22_c, con23_f, con23_c, con24_f, con24_c, slK_sl, slS_sl, eqS_refl])
      | ((with_reducible refine t_draw (by kernel_rfl) fun K => ?_); simp only [go_sem, Int.cast_ofNat_Int, Nat.reduceEqDiff, reduceIte, Nat.reduceAdd, Nat.reduceMul, Nat.reduceLeDiff, Nat.reduceSub, Nat.reduceLT, Nat.zero_lt_succ, Int.reduceToNat, Int.reduceAdd, Int.reduceSub, Int.reduceMul, Int.reduceNeg, Int.reduceLT, Int.reduceLE, Int.reduceEq, Int.reduceBEq, Int.reduceBNe, Nat.reduceBEq, List.reduceReplicate, f1, Int.toNat_natCast, hel, hin, f2, f2', f3, Int.natCast_add, awakeCon_f, awakeCon_c, con12_f, con12_c, con13_f, con13_c, fewCon_f, fewCon_c, con15_f, con15_c, sizeCon_f, sizeCon_c, con17_f, con17_c, con18_f, con18_c, con19_f, con19_c, con20_f, con20_c, con21_f, con21_c, con22_f, con22_c, con23_f, con23_c, con24_f, con24_c, slK_sl, slS_sl, eqS_refl])
      | ((with_reducible refine t_cond fun A B => ?_); simp only [go_sem, Int.cast_ofNat_Int, Nat.reduceEqDiff, reduceIte, Nat.reduceAdd, Nat.reduceMul, Nat.reduceLeDiff, Nat.reduceSub, Nat.reduceLT, Nat.zero_lt_succ, Int.reduceToNat, Int.reduceAdd, Int.reduceSub, Int.reduceMul, Int.reduceNeg, Int.reduceLT, Int.reduceLE, Int.reduceEq, Int.reduceBEq, Int.reduceBNe, Nat.reduceBEq, List.reduceReplicate, f1, Int.toNat_natCast, hel, hin, f2, f2', f3, Int.natCast_add, awakeCon_f, awakeCon_c, con12_f, con12_c, con13_f, con13_c, fewCon_f, fewCon_c, con15_f, con15_c, sizeCon_f, sizeCon_c, con17_f, con17_c, con18_f, con18_c, con19_f, con19_c, con20_f, con20_c, con21_f, con21_c, con22_f, con22_c, con23_f, con23_c, con24_f, con24_c, slK_sl, slS_sl, eqS_refl]; first | (with_reducible refine A.h ?_) | (with_reducible refine B.h ?_) | refine And.intro (fun hc => A.h ?_) (fun hc => B.h ?_))
      | simp only [thenQ_n, thenQ_r, thenQ_e, blockQ_n, blockQ_r, blockQ_e, scopeQ_n, scopeQ_r, scopeQ_e, Nat.reduceEqDiff, reduceIte]
      | (with_reducible refine And.intro ?_ ?_)
      | with_reducible intro vr)
    all_goals try (intros; (try simp only [Bool.and_eq_true, Bool.or_eq_true, Bool.not_eq_true', decide_eq_true_eq, decide_eq_false_iff_not, beq_iff_eq, bne_iff_ne, ne_eq, inI64, List.length_append] at *) <;> omega)
    refine ⟨⟨i + 1, by omega⟩, by simp only; omega, ?_⟩
    (refine Le.frame ?_; repeat' (first | exact leF_top _ | (with_reducible refine leF_sl ?_ ?_) | (refine leF_upd (LeR.of_eq ?_) ?_))) <;> (try (simp only [go_sem, Int.cast_ofNat_Int, Nat.reduceEqDiff, reduceIte, Nat.reduceAdd, Nat.reduceMul, Nat.reduceLeDiff, Nat.reduceSub, Nat.reduceLT, Nat.zero_lt_succ, Int.reduceToNat, Int.reduceAdd, Int.reduceSub, Int.reduceMul, Int.reduceNeg, Int.reduceLT, Int.reduceLE, Int.reduceEq, Int.reduceBEq, Int.reduceBNe, Nat.reduceBEq, List.reduceReplicate]; try rfl))
  · have f1 : decide ((i : Int) < (l.length : Int)) = false := by simp; omega
    repeat' (first
      | with_reducible refine t_seq fun K => ?_
      | with_reducible refine t_block ?_
      | with_reducible refine t_scope ?_
      | with_reducible refine t_label ?_
      | with_reducible refine t_skip ?_
      | with_reducible refine t_exit ?_
      | with_reducible refine t_ret ?_
      | with_reducible refine t_k ?_
      | ((with_reducible refine t_kE ?_); simp only [go_sem, Int.cast_ofNat_Int, Nat.reduceEqDiff, reduceIte, Nat.reduceAdd, Nat.reduceMul, Nat.reduceLeDiff, Nat.reduceSub, Nat.reduceLT, Nat.zero_lt_succ, Int.reduceToNat, Int.reduceAdd, Int.reduceSub, Int.reduceMul, Int.reduceNeg, Int.reduceLT, Int.reduceLE, Int.reduceEq, Int.reduceBEq, Int.reduceBNe, Nat.reduceBEq, List.reduceReplicate, f1])
      | ((with_reducible refine t_kD ?_); simp only [go_sem, Int.cast_ofNat_Int, Nat.reduceEqDiff, reduceIte, Nat.reduceAdd, Nat.reduceMul, Nat.reduceLeDiff, Nat.reduceSub, Nat.reduceLT, Nat.zero_lt_succ, Int.reduceToNat, Int.reduceAdd, Int.reduceSub, Int.reduceMul, Int.reduceNeg, Int.reduceLT, Int.reduceLE, Int.reduceEq, Int.reduceBEq, Int.reduceBNe, Nat.reduceBEq, List.reduceReplicate, f1])
      | ((with_reducible refine t_kL ?_); simp only [go_sem, Int.cast_ofNat_Int, Nat.reduceEqDiff, reduceIte, Nat.reduceAdd, Nat.reduceMul, Nat.reduceLeDiff, Nat.reduceSub, Nat.reduceLT, Nat.zero_lt_succ, Int.reduceToNat, Int.reduceAdd, Int.reduceSub, Int.reduceMul, Int.reduceNeg, Int.reduceLT, Int.reduceLE, Int.reduceEq, Int.reduceBEq, Int.reduceBNe, Nat.reduceBEq, List.reduceReplicate, f1])
      | ((with_reducible refine t_kLE ?_ ?_; rotate_left); simp only [go_sem, Int.cast_ofNat_Int, Nat.reduceEqDiff, reduceIte, Nat.reduceAdd, Nat.reduceMul, Nat.reduceLeDiff, Nat.reduceSub, Nat.reduceLT, Nat.zero_lt_succ, Int.reduceToNat, Int.reduceAdd, Int.reduceSub, Int.reduceMul, Int.reduceNeg, Int.reduceLT, Int.reduceLE, Int.reduceEq, Int.reduceBEq, Int.reduceBNe, Nat.reduceBEq, List.reduceReplicate, f1])
      | (with_reducible exact kp_nil)
      | (with_reducible exact Kp.refl _)
      | (with_reducible exact kp_to)
      | (with_reducible refine kp_cons ?_)
      | (with_reducible refine kp_arr ?_)
      | (with_reducible refine kp_app ?_)
      | ((with_reducible refine t_region fun K => ?_); simp only [go_sem, Int.cast_ofNat_Int, Nat.reduceEqDiff, reduceIte, Nat.reduceAdd, Nat.reduceMul, Nat.reduceLeDiff, Nat.reduceSub, Nat.reduceLT, Nat.zero_lt_succ, Int.reduceToNat, Int.reduceAdd, Int.reduceSub, Int.reduceMul, Int.reduceNeg, Int.reduceLT, Int.reduceLE, Int.reduceEq, Int.reduceBEq, Int.reduceBNe, Nat.reduceBEq, List.reduceReplicate, f1])
      | ((with_reducible refine t_draw (by kernel_rfl) fun K => ?_); simp only [go_sem, Int.cast_ofNat_Int, Nat.reduceEqDiff, reduceIte, Nat.reduceAdd, Nat.reduceMul, Nat.reduceLeDiff, Nat.reduceSub, Nat.reduceLT, Nat.zero_lt_succ, Int.reduceToNat, Int.reduceAdd, Int.reduceSub, Int.reduceMul, Int.reduceNeg, Int.reduceLT, Int.reduceLE, Int.reduceEq, Int.reduceBEq, Int.reduceBNe, Nat.reduceBEq, List.reduceReplicate, f1])
      | ((with_reducible refine t_cond fun A B => ?_); simp only [go_sem, Int.cast_ofNat_Int, Nat.reduceEqDiff, reduceIte, Nat.reduceAdd, Nat.reduceMul, Nat.reduceLeDiff, Nat.reduceSub, Nat.reduceLT, Nat.zero_lt_succ, Int.reduceToNat, Int.reduceAdd, Int.reduceSub, Int.reduceMul, Int.reduceNeg, Int.reduceLT, Int.reduceLE, Int.reduceEq, Int.reduceBEq, Int.reduceBNe, Nat.reduceBEq, List.reduceReplicate, f1]; first | (with_reducible refine A.h ?_) | (with_reducible refine B.h ?_) | refine And.intro (fun hc => A.h ?_) (fun hc => B.h ?_))
      | simp only [thenQ_n, thenQ_r, thenQ_e, blockQ_n, blockQ_r, blockQ_e, scopeQ_n, scopeQ_r, scopeQ_e, Nat.reduceEqDiff, reduceIte]
      | (with_reducible refine And.intro ?_ ?_)
      | with_reducible intro vr)
    refine t_loop (ι := { i : Nat // i ≤ t.length }) (fun i => ⟨upd (upd (upd (upd topF 9 (.lit (.int .i64 i.1))) 2 (.sl false 1 (strs t))) 1 (.sl false 1 (ints .i64 l))) 0 (.sl false 1 (ints .u8 b)), []⟩) (fun i => t.length - i.1) ⟨0, by omega⟩ ?_ ?_
    · skip
      (refine Le.frame ?_; repeat' (first | exact leF_top _ | (with_reducible refine leF_sl ?_ ?_) | (refine leF_upd (LeR.of_eq ?_) ?_))) <;> (try (simp only [go_sem, Int.cast_ofNat_Int, Nat.reduceEqDiff, reduceIte, Nat.reduceAdd, Nat.reduceMul, Nat.reduceLeDiff, Nat.reduceSub, Nat.reduceLT, Nat.zero_lt_succ, Int.reduceToNat, Int.reduceAdd, Int.reduceSub, Int.reduceMul, Int.reduceNeg, Int.reduceLT, Int.reduceLE, Int.reduceEq, Int.reduceBEq, Int.reduceBNe, Nat.reduceBEq, List.reduceReplicate]; try rfl))
    rintro ⟨j, hj'⟩ K1
    rcases Nat.lt_or_ge j t.length with hc | hc
    · have f1 : decide ((j : Int) < (t.length : Int)) = true := by simp; omega
      have hel := strs_getD t j hc
      have hin : (t.getD j ByteArray.empty).size ≤ 1000 := t3 _ (by rw [getD_elem _ _ hc]; exact List.getElem_mem hc)
      repeat' (first
        | with_reducible refine t_seq fun K => ?_
        | with_reducible refine t_block ?_
        | with_reducible refine t_scope ?_
        | with_reducible refine t_label ?_
        | with_reducible refine t_skip ?_
        | with_reducible refine t_exit ?_
        | with_reducible refine t_ret ?_
        | with_reducible refine t_k ?_
        | ((with_reducible refine t_kE ?_); simp only [go_sem, Int.cast_ofNat_Int, Nat.reduceEqDiff, reduceIte, Nat.reduceAdd, Nat.reduceMul, Nat.reduceLeDiff, Nat.reduceSub, Nat.reduceLT, Nat.zero_lt_succ, Int.reduceToNat, Int.reduceAdd, Int.reduceSub, Int.reduceMul, Int.reduceNeg, Int.reduceLT, Int.reduceLE, Int.reduceEq, Int.reduceBEq, Int.reduceBNe, Nat.reduceBEq, List.reduceReplicate, f1, Int.toNat_natCast, hel, awakeCon_f, awakeCon_c, con12_f, con12_c, con13_f, con13_c, fewCon_f, fewCon_c, con15_f, con15_c, sizeCon_f, sizeCon_c, con17_f, con17_c, con18_f, con18_c, con19_f, con19_c, con20_f, con20_c, con21_f, con21_c, con22_f, con22_c, con23_f, con23_c, con24_f, con24_c, slK_sl, slS_sl, eqS_refl])
        | ((with_reducible refine t_kD ?_); simp only [go_sem, Int.cast_ofNat_Int, Nat.reduceEqDiff, reduceIte, Nat.reduceAdd, Nat.reduceMul, Nat.reduceLeDiff, Nat.reduceSub, Nat.reduceLT, Nat.zero_lt_succ, Int.reduceToNat, Int.reduceAdd, Int.reduceSub, Int.reduceMul, Int.reduceNeg, Int.reduceLT, Int.reduceLE, Int.reduceEq, Int.reduceBEq, Int.reduceBNe, Nat.reduceBEq, List.reduceReplicate, f1, Int.toNat_natCast, hel, awakeCon_f, awakeCon_c, con12_f, con12_c, con13_f, con13_c, fewCon_f, fewCon_c, con15_f, con15_c, sizeCon_f, sizeCon_c, con17_f, con17_c, con18_f, con18_c, con19_f, con19_c, con20_f, con20_c, con21_f, con21_c, con22_f, con22_c, con23_f, con23_c, con24_f, con24_c, slK_sl, slS_sl, eqS_refl])
        | ((with_reducible refine t_kL ?_); simp only [go_sem, Int.cast_ofNat_Int, Nat.reduceEqDiff, reduceIte, Nat.reduceAdd, Nat.reduceMul, Nat.reduceLeDiff, Nat.reduceSub, Nat.reduceLT, Nat.zero_lt_succ, Int.reduceToNat, Int.reduceAdd, Int.reduceSub, Int.reduceMul, Int.reduceNeg, Int.reduceLT, Int.reduceLE, Int.reduceEq, Int.reduceBEq, Int.reduceBNe, Nat.reduceBEq, List.reduceReplicate, f1, Int.toNat_natCast, hel, awakeCon_f, awakeCon_c, con12_f, con12_c, con13_f, con13_c, fewCon_f, fewCon_c, con15_f, con15_c, sizeCon_f, sizeCon_c, con17_f, con17_c, con18_f, con18_c, con19_f, con19_c, con20_f, con20_c, con21_f, con21_c, con22_f, con22_c, con23_f, con23_c, con24_f, con24_c, slK_sl, slS_sl, eqS_refl])
        | ((with_reducible refine t_kLE ?_ ?_; rotate_left); simp only [go_sem, Int.cast_ofNat_Int, Nat.reduceEqDiff, reduceIte, Nat.reduceAdd, Nat.reduceMul, Nat.reduceLeDiff, Nat.reduceSub, Nat.reduceLT, Nat.zero_lt_succ, Int.reduceToNat, Int.reduceAdd, Int.reduceSub, Int.reduceMul, Int.reduceNeg, Int.reduceLT, Int.reduceLE, Int.reduceEq, Int.reduceBEq, Int.reduceBNe, Nat.reduceBEq, List.reduceReplicate, f1, Int.toNat_natCast, hel, awakeCon_f, awakeCon_c, con12_f, con12_c, con13_f, con13_c, fewCon_f, fewCon_c, con15_f, con15_c, sizeCon_f, sizeCon_c, con17_f, con17_c, con18_f, con18_c, con19_f, con19_c, con20_f, con20_c, con21_f, con21_c, con22_f, con22_c, con23_f, con23_c, con24_f, con24_c, slK_sl, slS_sl, eqS_refl])
        | (with_reducible exact kp_nil)
        | (with_reducible exact Kp.refl _)
        | (with_reducible exact kp_to)
        | (with_reducible refine kp_cons ?_)
        | (with_reducible refine kp_arr ?_)
        | (with_reducible refine kp_app ?_)
        | ((with_reducible refine t_region fun K => ?_); simp only [go_sem, Int.cast_ofNat_Int, Nat.reduceEqDiff, reduceIte, Nat.reduceAdd, Nat.reduceMul, Nat.reduceLeDiff, Nat.reduceSub, Nat.reduceLT, Nat.zero_lt_succ, Int.reduceToNat, Int.reduceAdd, Int.reduceSub, Int.reduceMul, Int.reduceNeg, Int.reduceLT, Int.reduceLE, Int.reduceEq, Int.reduceBEq, Int.reduceBNe, Nat.reduceBEq, List.reduceReplicate, f1, Int.toNat_natCast, hel, awakeCon_f, awakeCon_c, con12_f, con12_c, con13_f, con13_c, fewCon_f, fewCon_c, con15_f, con15_c, sizeCon_f, sizeCon_c, con17_f, con17_c, con18_f, con18_c, con19_f, con19_c, con20_f, con20_c, con21_f, con21_c, con22_f, con22_c, con23_f, con23_c, con24_f, con24_c, slK_sl, slS_sl, eqS_refl])
        | ((with_reducible refine t_draw (by kernel_rfl) fun K => ?_); simp only [go_sem, Int.cast_ofNat_Int, Nat.reduceEqDiff, reduceIte, Nat.reduceAdd, Nat.reduceMul, Nat.reduceLeDiff, Nat.reduceSub, Nat.reduceLT, Nat.zero_lt_succ, Int.reduceToNat, Int.reduceAdd, Int.reduceSub, Int.reduceMul, Int.reduceNeg, Int.reduceLT, Int.reduceLE, Int.reduceEq, Int.reduceBEq, Int.reduceBNe, Nat.reduceBEq, List.reduceReplicate, f1, Int.toNat_natCast, hel, awakeCon_f, awakeCon_c, con12_f, con12_c, con13_f, con13_c, fewCon_f, fewCon_c, con15_f, con15_c, sizeCon_f, sizeCon_c, con17_f, con17_c, con18_f, con18_c, con19_f, con19_c, con20_f, con20_c, con21_f, con21_c, con22_f, con22_c, con23_f, con23_c, con24_f, con24_c, slK_sl, slS_sl, eqS_refl])
        | ((with_reducible refine t_cond fun A B => ?_); simp only [go_sem, Int.cast_ofNat_Int, Nat.reduceEqDiff, reduceIte, Nat.reduceAdd, Nat.reduceMul, Nat.reduceLeDiff, Nat.reduceSub, Nat.reduceLT, Nat.zero_lt_succ, Int.reduceToNat, Int.reduceAdd, Int.reduceSub, Int.reduceMul, Int.reduceNeg, Int.reduceLT, Int.reduceLE, Int.reduceEq, Int.reduceBEq, Int.reduceBNe, Nat.reduceBEq, List.reduceReplicate, f1, Int.toNat_natCast, hel, awakeCon_f, awakeCon_c, con12_f, con12_c, con13_f, con13_c, fewCon_f, fewCon_c, con15_f, con15_c, sizeCon_f, sizeCon_c, con17_f, con17_c, con18_f, con18_c, con19_f, con19_c, con20_f, con20_c, con21_f, con21_c, con22_f, con22_c, con23_f, con23_c, con24_f, con24_c, slK_sl, slS_sl, eqS_refl]; first | (with_reducible refine A.h ?_) | (with_reducible refine B.h ?_) | refine And.intro (fun hc => A.h ?_) (fun hc => B.h ?_))
        | simp only [thenQ_n, thenQ_r, thenQ_e, blockQ_n, blockQ_r, blockQ_e, scopeQ_n, scopeQ_r, scopeQ_e, Nat.reduceEqDiff, reduceIte]
        | (with_reducible refine And.intro ?_ ?_)
        | with_reducible intro vr)
      all_goals try (intros; (try simp only [Bool.and_eq_true, Bool.or_eq_true, Bool.not_eq_true', decide_eq_true_eq, decide_eq_false_iff_not, beq_iff_eq, bne_iff_ne, ne_eq, inI64, List.length_append] at *) <;> omega)
      refine ⟨⟨j + 1, by omega⟩, by simp only; omega, ?_⟩
      (refine Le.frame ?_; repeat' (first | exact leF_top _ | (with_reducible refine leF_sl ?_ ?_) | (refine leF_upd (LeR.of_eq ?_) ?_))) <;> (try (simp only [go_sem, Int.cast_ofNat_Int, Nat.reduceEqDiff, reduceIte, Nat.reduceAdd, Nat.reduceMul, Nat.reduceLeDiff, Nat.reduceSub, Nat.reduceLT, Nat.zero_lt_succ, Int.reduceToNat, Int.reduceAdd, Int.reduceSub, Int.reduceMul, Int.reduceNeg, Int.reduceLT, Int.reduceLE, Int.reduceEq, Int.reduceBEq, Int.reduceBNe, Nat.reduceBEq, List.reduceReplicate]; try rfl))
    · have f1 : decide ((j : Int) < (t.length : Int)) = false := by simp; omega
      repeat' (first
        | with_reducible refine t_seq fun K => ?_
        | with_reducible refine t_block ?_
        | with_reducible refine t_scope ?_
        | with_reducible refine t_label ?_
        | with_reducible refine t_skip ?_
        | with_reducible refine t_exit ?_
        | with_reducible refine t_ret ?_
        | with_reducible refine t_k ?_
        | ((with_reducible refine t_kE ?_); simp only [go_sem, Int.cast_ofNat_Int, Nat.reduceEqDiff, reduceIte, Nat.reduceAdd, Nat.reduceMul, Nat.reduceLeDiff, Nat.reduceSub, Nat.reduceLT, Nat.zero_lt_succ, Int.reduceToNat, Int.reduceAdd, Int.reduceSub, Int.reduceMul, Int.reduceNeg, Int.reduceLT, Int.reduceLE, Int.reduceEq, Int.reduceBEq, Int.reduceBNe, Nat.reduceBEq, List.reduceReplicate, f1, awakeCon_f, awakeCon_c, con12_f, con12_c, con13_f, con13_c, fewCon_f, fewCon_c, con15_f, con15_c, sizeCon_f, sizeCon_c, con17_f, con17_c, con18_f, con18_c, con19_f, con19_c, con20_f, con20_c, con21_f, con21_c, con22_f, con22_c, con23_f, con23_c, con24_f, con24_c, slK_sl, slS_sl, eqS_refl])
        | ((with_reducible refine t_kD ?_); simp only [go_sem, Int.cast_ofNat_Int, Nat.reduceEqDiff, reduceIte, Nat.reduceAdd, Nat.reduceMul, Nat.reduceLeDiff, Nat.reduceSub, Nat.reduceLT, Nat.zero_lt_succ, Int.reduceToNat, Int.reduceAdd, Int.reduceSub, Int.reduceMul, Int.reduceNeg, Int.reduceLT, Int.reduceLE, Int.reduceEq, Int.reduceBEq, Int.reduceBNe, Nat.reduceBEq, List.reduceReplicate, f1, awakeCon_f, awakeCon_c, con12_f, con12_c, con13_f, con13_c, fewCon_f, fewCon_c, con15_f, con15_c, sizeCon_f, sizeCon_c, con17_f, con17_c, con18_f, con18_c, con19_f, con19_c, con20_f, con20_c, con21_f, con21_c, con22_f, con22_c, con23_f, con23_c, con24_f, con24_c, slK_sl, slS_sl, eqS_refl])
        | ((with_reducible refine t_kL ?_); simp only [go_sem, Int.cast_ofNat_Int, Nat.reduceEqDiff, reduceIte, Nat.reduceAdd, Nat.reduceMul, Nat.reduceLeDiff, Nat.reduceSub, Nat.reduceLT, Nat.zero_lt_succ, Int.reduceToNat, Int.reduceAdd, Int.reduceSub, Int.reduceMul, Int.reduceNeg, Int.reduceLT, Int.reduceLE, Int.reduceEq, Int.reduceBEq, Int.reduceBNe, Nat.reduceBEq, List.reduceReplicate, f1, awakeCon_f, awakeCon_c, con12_f, con12_c, con13_f, con13_c, fewCon_f, fewCon_c, con15_f, con15_c, sizeCon_f, sizeCon_c, con17_f, con17_c, con18_f, con18_c, con19_f, con19_c, con20_f, con20_c, con21_f, con21_c, con22_f, con22_c, con23_f, con23_c, con24_f, con24_c, slK_sl, slS_sl, eqS_refl])
        | ((with_reducible refine t_kLE ?_ ?_; rotate_left); simp only [go_sem, Int.cast_ofNat_Int, Nat.reduceEqDiff, reduceIte, Nat.reduceAdd, Nat.reduceMul, Nat.reduceLeDiff, Nat.reduceSub, Nat.reduceLT, Nat.zero_lt_succ, Int.reduceToNat, Int.reduceAdd, Int.reduceSub, Int.reduceMul, Int.reduceNeg, Int.reduceLT, Int.reduceLE, Int.reduceEq, Int.reduceBEq, Int.reduceBNe, Nat.reduceBEq, List.reduceReplicate, f1, awakeCon_f, awakeCon_c, con12_f, con12_c, con13_f, con13_c, fewCon_f, fewCon_c, con15_f, con15_c, sizeCon_f, sizeCon_c, con17_f, con17_c, con18_f, con18_c, con19_f, con19_c, con20_f, con20_c, con21_f, con21_c, con22_f, con22_c, con23_f, con23_c, con24_f, con24_c, slK_sl, slS_sl, eqS_refl])
        | (with_reducible exact kp_nil)
        | (with_reducible exact Kp.refl _)
        | (with_reducible exact kp_to)
        | (with_reducible refine kp_cons ?_)
        | (with_reducible refine kp_arr ?_)
        | (with_reducible refine kp_app ?_)
        | ((with_reducible refine t_region fun K => ?_); simp only [go_sem, Int.cast_ofNat_Int, Nat.reduceEqDiff, reduceIte, Nat.reduceAdd, Nat.reduceMul, Nat.reduceLeDiff, Nat.reduceSub, Nat.reduceLT, Nat.zero_lt_succ, Int.reduceToNat, Int.reduceAdd, Int.reduceSub, Int.reduceMul, Int.reduceNeg, Int.reduceLT, Int.reduceLE, Int.reduceEq, Int.reduceBEq, Int.reduceBNe, Nat.reduceBEq, List.reduceReplicate, f1, awakeCon_f, awakeCon_c, con12_f, con12_c, con13_f, con13_c, fewCon_f, fewCon_c, con15_f, con15_c, sizeCon_f, sizeCon_c, con17_f, con17_c, con18_f, con18_c, con19_f, con19_c, con20_f, con20_c, con21_f, con21_c, con22_f, con22_c, con23_f, con23_c, con24_f, con24_c, slK_sl, slS_sl, eqS_refl])
        | ((with_reducible refine t_draw (by kernel_rfl) fun K => ?_); simp only [go_sem, Int.cast_ofNat_Int, Nat.reduceEqDiff, reduceIte, Nat.reduceAdd, Nat.reduceMul, Nat.reduceLeDiff, Nat.reduceSub, Nat.reduceLT, Nat.zero_lt_succ, Int.reduceToNat, Int.reduceAdd, Int.reduceSub, Int.reduceMul, Int.reduceNeg, Int.reduceLT, Int.reduceLE, Int.reduceEq, Int.reduceBEq, Int.reduceBNe, Nat.reduceBEq, List.reduceReplicate, f1, awakeCon_f, awakeCon_c, con12_f, con12_c, con13_f, con13_c, fewCon_f, fewCon_c, con15_f, con15_c, sizeCon_f, sizeCon_c, con17_f, con17_c, con18_f, con18_c, con19_f, con19_c, con20_f, con20_c, con21_f, con21_c, con22_f, con22_c, con23_f, con23_c, con24_f, con24_c, slK_sl, slS_sl, eqS_refl])
        | ((with_reducible refine t_cond fun A B => ?_); simp only [go_sem, Int.cast_ofNat_Int, Nat.reduceEqDiff, reduceIte, Nat.reduceAdd, Nat.reduceMul, Nat.reduceLeDiff, Nat.reduceSub, Nat.reduceLT, Nat.zero_lt_succ, Int.reduceToNat, Int.reduceAdd, Int.reduceSub, Int.reduceMul, Int.reduceNeg, Int.reduceLT, Int.reduceLE, Int.reduceEq, Int.reduceBEq, Int.reduceBNe, Nat.reduceBEq, List.reduceReplicate, f1, awakeCon_f, awakeCon_c, con12_f, con12_c, con13_f, con13_c, fewCon_f, fewCon_c, con15_f, con15_c, sizeCon_f, sizeCon_c, con17_f, con17_c, con18_f, con18_c, con19_f, con19_c, con20_f, con20_c, con21_f, con21_c, con22_f, con22_c, con23_f, con23_c, con24_f, con24_c, slK_sl, slS_sl, eqS_refl]; first | (with_reducible refine A.h ?_) | (with_reducible refine B.h ?_) | refine And.intro (fun hc => A.h ?_) (fun hc => B.h ?_))
        | simp only [thenQ_n, thenQ_r, thenQ_e, blockQ_n, blockQ_r, blockQ_e, scopeQ_n, scopeQ_r, scopeQ_e, Nat.reduceEqDiff, reduceIte]
        | (with_reducible refine And.intro ?_ ?_)
        | with_reducible intro vr)
      all_goals try (intros; (try simp only [Bool.and_eq_true, Bool.or_eq_true, Bool.not_eq_true', decide_eq_true_eq, decide_eq_false_iff_not, beq_iff_eq, bne_iff_ne, ne_eq, inI64, List.length_append] at *) <;> omega)
      · exact hi _ (by assumption)
      · exact hi _ (by assumption)
      · exact t3 _ (by assumption)
      · exact t3 _ (by assumption)
      refine end_ret rfl ?_
      simp only [fin, go_sem, Int.cast_ofNat_Int, Nat.reduceEqDiff, reduceIte, Nat.reduceAdd, Nat.reduceMul, Nat.reduceLeDiff, Nat.reduceSub, Nat.reduceLT, Nat.zero_lt_succ, Int.reduceToNat, Int.reduceAdd, Int.reduceSub, Int.reduceMul, Int.reduceNeg, Int.reduceLT, Int.reduceLE, Int.reduceEq, Int.reduceBEq, Int.reduceBNe, Nat.reduceBEq, List.reduceReplicate]
      exact LeA.refl _
theorem writes_law : ∀ xs, ShL Try.prog Try.f5.params.toList xs → PC Try.prog 5 xs (.lit (.bool true))
  | [x, y, z], h => by
    obtain ⟨b, rfl, _, hb⟩ := shv_ints u22 u5 sz5 h.1
    obtain ⟨l, rfl, _, hl⟩ := shv_ints u32 u3 sz3 h.2.1
    obtain ⟨t, rfl, ht, _⟩ := shv_strs u33 u9 sz9 h.2.2.1
    exact writes_pc (fun n hn => wf_i64 (hl n hn)) ht
  | [], h => h.elim
  | [_], h => h.2.elim
  | [_, _], h => h.2.2.elim
  | _ :: _ :: _ :: _ :: _, h => h.2.2.2.elim
end Go.Proofs.Ytgkjocnfdllieaa

/- WireWrites returns true for any bytes, integers and texts. -/
namespace Go.Proofs.Ytgkjocnfdllieaa.wireWrites
open Go.ChangeShapes Go.WideShapes Go.ChangeAt Go.RowKit Go.Fw

theorem own : ownKnob Try.prog.godebug = none := by kernel_rfl
set_option maxRecDepth 100000 in
theorem lifted (os : Os) (started : os.Started) (H : Type) (enc : TypeId × Value → H) :
    ReturnsInHanded {} Try.checked os 5 .any (Rows.wireWritesSpec.pre6 enc Try.prog Try.f5 Rows.wireWritesRow.domain false) (Rows.wireWritesSpec.post enc Try.prog Try.f5 false true false false) := by
  refine returnsInHanded_of_change (C := Try.checked) own started (by kernel_rfl) Try.func5
    (ChangeSpec.witness6 (enc := enc) (C := Try.checked) false ⟨#[], #[.slice none 0 0, .slice none 0 0, .slice none 0 0], []⟩ 8 (by kernel_rfl) (by kernel_rfl) (by kernel_rfl) (by kernel_rfl)) ?_
  intro W base args ds gs before hval hW hcnd _
  exact law_body (m := 9) writes_law (by kernel_rfl) (by kernel_rfl) rfl (by kernel_rfl) (fun ds h => by match ds, h with | [_, _, _], _ => rfl) rfl (by kernel_rfl) hval hW

theorem over : Rows.wireWritesRow.holds Try.pinned (OpenSpec.ofChange Rows.wireWritesSpec) :=
  OpenClaim.holds_of_wide 5 Try.f5 rfl rfl rfl rfl rfl rfl rfl ⟨rfl, rfl, rfl, rfl, rfl⟩ rfl rfl rfl rfl rfl (by kernel_rfl) Try.func5 (by kernel_rfl)
    (of_decide_eq_true (by kernel_rfl)) (by unfold Func.isWrapper; first | (rw [if_pos (by decide +kernel)]; kernel_rfl) | (rw [if_neg (by decide +kernel)]; exact ⟨rfl, rfl⟩))
    (fun os started H enc _ => lifted os started H enc)

theorem proved : Rows.WireWritesSaid :=
  over
#print axioms proved
end Go.Proofs.Ytgkjocnfdllieaa.wireWrites
