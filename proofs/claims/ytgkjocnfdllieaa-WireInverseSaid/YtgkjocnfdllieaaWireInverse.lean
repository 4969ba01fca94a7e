/- WireInverse: the walk. -/
import Derived.Test.YtgkjocnfdllieaaWD
import Derived.Test.YtgkjocnfdllieaaWG

set_option linter.all false

namespace Go.Proofs.Ytgkjocnfdllieaa
open Go Go.Fw

noncomputable def intsR : ECon Try.prog where
  f := 21
  c := fun args σ k => match args with
    | [x, .sl _ 1 ys] => withK .i64 ys fun m => bytesC σ x (fun l => l.length ≤ 300000 ∧ m.length ≤ 10000 ∧ ∀ n ∈ m, inI64 n) (fun l => l ++ enc (m.length : Int) ++ encL m) k
    | _ => False
  ok := by
    intro args σ k h
    split at h
    · obtain ⟨m, rfl, h'⟩ := withK_inv h
      obtain ⟨l, h1, h2, h3⟩ := bytesC_inv h'; exact ints_rd h1 h2.1 h2.2.1 h2.2.2 h3
    · exact h.elim
  fk := fk21
theorem intsR_f : intsR.f = 21 := rfl
theorem intsR_c {σ : List AObj} {k : AV → List AObj → Prop} {x : AV} {b : Bool} {ys : List AV} : intsR.c [x, .sl b 1 ys] σ k =
   withK .i64 ys fun m => bytesC σ x (fun l => l.length ≤ 300000 ∧ m.length ≤ 10000 ∧ ∀ n ∈ m, inI64 n) (fun l => l ++ enc (m.length : Int) ++ encL m) k := rfl
noncomputable def textsR : ECon Try.prog where
  f := 23
  c := fun args σ k => match args with
    | [x, .sl _ 1 ys] => withS ys fun m => bytesC σ x (fun l => l.length ≤ 300000 ∧ m.length ≤ 300 ∧ ∀ s ∈ m, s.size ≤ 1000) (fun l => l ++ enc (m.length : Int) ++ encS m) k
    | _ => False
  ok := by
    intro args σ k h
    split at h
    · obtain ⟨m, rfl, h'⟩ := withS_inv h
      obtain ⟨l, h1, h2, h3⟩ := bytesC_inv h'; exact texts_rd h1 h2.1 h2.2.1 h2.2.2 h3
    · exact h.elim
  fk := fk23
theorem textsR_f : textsR.f = 23 := rfl
theorem textsR_c {σ : List AObj} {k : AV → List AObj → Prop} {x : AV} {b : Bool} {ys : List AV} : textsR.c [x, .sl b 1 ys] σ k =
   withS ys fun m => bytesC σ x (fun l => l.length ≤ 300000 ∧ m.length ≤ 300 ∧ ∀ s ∈ m, s.size ≤ 1000) (fun l => l ++ enc (m.length : Int) ++ encS m) k := rfl

/-- A number and whether it is positive. -/
def encP (l : List Int) : List Int := l.flatMap fun n => enc n ++ encB (decide (n > 0))
theorem encB_len (v : Bool) : (encB v).length ≤ 9 := (enc_len _).2
theorem encP_len (l : List Int) : (encP l).length ≤ 18 * l.length := by
  induction l with
  | nil => simp [encP]
  | cons n l ih => have := enc_len n; have := encB_len (decide (n > 0)); simp only [encP, List.flatMap_cons, List.length_append, List.length_cons] at *; omega
theorem encP_step (l : List Int) {i : Nat} (h : i < l.length) : encP (l.take (i + 1)) = encP (l.take i) ++ enc (l.getD i 0) ++ encB (decide (l.getD i 0 > 0)) := by
  rw [take_next l 0 h]
  simp [encP]
theorem drop_cons {α : Type} (l : List α) (d : α) {i : Nat} (h : i < l.length) : l.drop i = l.getD i d :: l.drop (i + 1) := by
  rw [List.drop_eq_getElem_cons h, getD_elem _ _ h]
theorem encP_drop (l : List Int) {i : Nat} (h : i < l.length) : encP (l.drop i) = enc (l.getD i 0) ++ (encB (decide (l.getD i 0 > 0)) ++ encP (l.drop (i + 1))) := by
  rw [drop_cons l 0 h]
  simp [encP]
theorem encS_drop (t : List ByteArray) {i : Nat} (h : i < t.length) : encS (t.drop i) = encT (t.getD i ByteArray.empty) ++ encS (t.drop (i + 1)) := by
  rw [drop_cons t ByteArray.empty h]
  simp [encS]
theorem bool_enc (v : Bool) (r : List Int) : boolS (encB v ++ r) = (v, r, 0) := by
  unfold boolS encB
  rw [num_enc (by cases v <;> exact ⟨by decide, by decide⟩) (by cases v <;> decide) (by cases v <;> decide)]
  cases v <;> rfl
theorem encP_byt (l : List Int) : byt (encP l) := by
  intro x hx
  simp only [encP, List.mem_flatMap] at hx
  obtain ⟨n, _, hx⟩ := hx
  rcases List.mem_append.1 hx with hx | hx
  · exact enc_byt _ x hx
  · exact enc_byt _ x hx
theorem encL_byt (l : List Int) : byt (encL l) := by
  intro x hx
  simp only [encL, List.mem_flatMap] at hx
  obtain ⟨n, _, hx⟩ := hx
  exact enc_byt _ x hx
theorem encS_byt (l : List ByteArray) : byt (encS l) := by
  intro x hx
  simp only [encS, List.mem_flatMap] at hx
  obtain ⟨s, _, hx⟩ := hx
  rcases List.mem_append.1 hx with hx | hx
  · exact enc_byt _ x hx
  · exact bytesI_byt _ x hx
theorem byt_app {l m : List Int} (h : byt l) (k : byt m) : byt (l ++ m) := fun x hx => by
  rcases List.mem_append.1 hx with hx | hx
  · exact h x hx
  · exact k x hx

noncomputable def E80 : Env := envOf (P := Try.prog) zer (fun _ => false) (fun d => d == 71 || d == 97) [awakeCon, con12, fewCon, sameICon, sameTCon] [intsR, textsR, intR, boolR, textR, srcintCon, methBCon, methWCon, methICon, methTCon]
theorem E80_ok : EnvOk Try.prog E80 := envOk zer_ok
set_option maxHeartbeats 4000000 in
theorem inverse_pc {l : List Int} {t : List ByteArray} {rest : List Int} (hi : ∀ n ∈ l, inI64 n) (ht : t.length ≤ maxLen) (hr : byt rest) : PC Try.prog 9 [.sl false 1 (ints .i64 l), .sl false 1 (strs t), .sl false 1 (ints .u8 rest)] (.lit (.bool true)) := by
  by_cases h1 : l.length > 20
  · have e1 : decide ((l.length : Int) > 20) = true := decide_eq_true (by omega)
    refine pc_of E80_ok mixed (fun _ => [0, 1, 2, 6, 7, 8, 9, 10, 11, 12, 14, 27, 35, 53, 75, 79, 104, 108, 121]) Try.func9 rfl (by kernel_rfl) (Nat.le_of_ble_eq_true rfl) ?_
    simp only [initF_cons, initF_nil, Nat.reduceAdd]
    refine t_name fun KF => ?_
    unfold E80
    repeat' (first
      | with_reducible refine t_seq fun K => ?_
      | with_reducible refine t_block ?_
      | with_reducible refine t_scope ?_
      | with_reducible refine t_label ?_
      | with_reducible refine t_skip ?_
      | with_reducible refine t_exit ?_
      | with_reducible refine t_ret ?_
      | with_reducible refine t_k ?_
      | (with_reducible refine t_gF ?_)
      | ((first | with_reducible refine t_kE ?_ | with_reducible refine t_kD ?_ | with_reducible refine t_gS ?_ | with_reducible refine t_kL ?_ | (with_reducible refine t_kLE ?_ ?_; rotate_left) | with_reducible refine t_region fun K => ?_ | with_reducible refine t_drawE (id := 9) (fun _ => true) [(0, true), (1, true), (2, true), (3, true), (4, true), (6, true), (7, true), (8, true), (9, true), (10, true), (5, false), (11, false), (12, true)] (by kernel_rfl) fun K => ?_ | with_reducible refine t_drawE (id := 20) (fun _ => false) [(0, true), (1, true), (2, true), (3, true), (4, true), (5, true), (6, true), (7, true), (9, true), (10, true), (11, true), (12, true), (8, false), (13, true), (14, true), (16, true), (17, true), (18, true), (19, true), (20, true), (15, false), (21, true), (22, true)] (by kernel_rfl) fun K => ?_ | with_reducible refine t_drawE (id := 25) (fun _ => false) [(0, true), (1, true), (2, true), (3, true), (4, true), (6, true), (7, true), (8, true), (9, true), (5, false), (10, true)] (by kernel_rfl) fun K => ?_ | with_reducible refine t_draw (by kernel_rfl) fun K => ?_); simp only [go_sem, Int.cast_ofNat_Int, Nat.reduceEqDiff, reduceIte, Nat.reduceAdd, Nat.reduceMul, Nat.reduceLeDiff, Nat.reduceSub, Nat.reduceLT, Nat.zero_lt_succ, Int.reduceToNat, Int.reduceAdd, Int.reduceSub, Int.reduceMul, Int.reduceNeg, Int.reduceLT, Int.reduceLE, Int.reduceEq, Int.reduceBEq, Int.reduceBNe, Nat.reduceBEq, List.reduceReplicate, awakeCon_f, awakeCon_c, e1])
      | (with_reducible exact kp_nil)
      | (with_reducible exact Kp.refl _)
      | (with_reducible exact kp_to)
      | (with_reducible refine kp_cons ?_)
      | (with_reducible refine kp_arr ?_)
      | (with_reducible refine kp_app ?_)
      | ((with_reducible refine t_cond fun A B => ?_); simp only [go_sem, Int.cast_ofNat_Int, Nat.reduceEqDiff, reduceIte, Nat.reduceAdd, Nat.reduceMul, Nat.reduceLeDiff, Nat.reduceSub, Nat.reduceLT, Nat.zero_lt_succ, Int.reduceToNat, Int.reduceAdd, Int.reduceSub, Int.reduceMul, Int.reduceNeg, Int.reduceLT, Int.reduceLE, Int.reduceEq, Int.reduceBEq, Int.reduceBNe, Nat.reduceBEq, List.reduceReplicate, awakeCon_f, awakeCon_c, e1]; first | (with_reducible refine A.h ?_) | (with_reducible refine B.h ?_) | refine And.intro (fun hc => A.h ?_) (fun hc => B.h ?_))
      | simp only [thenQ_n, thenQ_r, thenQ_e, blockQ_n, blockQ_r, blockQ_e, scopeQ_n, scopeQ_r, scopeQ_e, Nat.reduceEqDiff, reduceIte]
      | (with_reducible refine And.intro ?_ ?_)
      | with_reducible intro vr)
    refine end_ret rfl ?_
    simp only [fin, go_sem, Int.cast_ofNat_Int, Nat.reduceEqDiff, reduceIte, Nat.reduceAdd, Nat.reduceMul, Nat.reduceLeDiff, Nat.reduceSub, Nat.reduceLT, Nat.zero_lt_succ, Int.reduceToNat, Int.reduceAdd, Int.reduceSub, Int.reduceMul, Int.reduceNeg, Int.reduceLT, Int.reduceLE, Int.reduceEq, Int.reduceBEq, Int.reduceBNe, Nat.reduceBEq, List.reduceReplicate]
    exact LeA.refl _
  have e1 : decide ((l.length : Int) > 20) = false := decide_eq_false (by omega)
  by_cases h2 : few t 20 100 = false
  · skip
    refine pc_of E80_ok mixed (fun _ => [0, 1, 2, 6, 7, 8, 9, 10, 11, 12, 14, 27, 35, 53, 75, 79, 104, 108, 121]) Try.func9 rfl (by kernel_rfl) (Nat.le_of_ble_eq_true rfl) ?_
    simp only [initF_cons, initF_nil, Nat.reduceAdd]
    refine t_name fun KF => ?_
    unfold E80
    repeat' (first
      | with_reducible refine t_seq fun K => ?_
      | with_reducible refine t_block ?_
      | with_reducible refine t_scope ?_
      | with_reducible refine t_label ?_
      | with_reducible refine t_skip ?_
      | with_reducible refine t_exit ?_
      | with_reducible refine t_ret ?_
      | with_reducible refine t_k ?_
      | (with_reducible refine t_gF ?_)
      | ((first | with_reducible refine t_kE ?_ | with_reducible refine t_kD ?_ | with_reducible refine t_gS ?_ | with_reducible refine t_kL ?_ | (with_reducible refine t_kLE ?_ ?_; rotate_left) | with_reducible refine t_region fun K => ?_ | with_reducible refine t_drawE (id := 9) (fun _ => true) [(0, true), (1, true), (2, true), (3, true), (4, true), (6, true), (7, true), (8, true), (9, true), (10, true), (5, false), (11, false), (12, true)] (by kernel_rfl) fun K => ?_ | with_reducible refine t_drawE (id := 20) (fun _ => false) [(0, true), (1, true), (2, true), (3, true), (4, true), (5, true), (6, true), (7, true), (9, true), (10, true), (11, true), (12, true), (8, false), (13, true), (14, true), (16, true), (17, true), (18, true), (19, true), (20, true), (15, false), (21, true), (22, true)] (by kernel_rfl) fun K => ?_ | with_reducible refine t_drawE (id := 25) (fun _ => false) [(0, true), (1, true), (2, true), (3, true), (4, true), (6, true), (7, true), (8, true), (9, true), (5, false), (10, true)] (by kernel_rfl) fun K => ?_ | with_reducible refine t_draw (by kernel_rfl) fun K => ?_); simp only [go_sem, Int.cast_ofNat_Int, Nat.reduceEqDiff, reduceIte, Nat.reduceAdd, Nat.reduceMul, Nat.reduceLeDiff, Nat.reduceSub, Nat.reduceLT, Nat.zero_lt_succ, Int.reduceToNat, Int.reduceAdd, Int.reduceSub, Int.reduceMul, Int.reduceNeg, Int.reduceLT, Int.reduceLE, Int.reduceEq, Int.reduceBEq, Int.reduceBNe, Nat.reduceBEq, List.reduceReplicate, awakeCon_f, awakeCon_c, con12_f, fewCon_f, fewCon_c, slS_sl, e1, h2, ht])
      | (with_reducible exact kp_nil)
      | (with_reducible exact Kp.refl _)
      | (with_reducible exact kp_to)
      | (with_reducible refine kp_cons ?_)
      | (with_reducible refine kp_arr ?_)
      | (with_reducible refine kp_app ?_)
      | ((with_reducible refine t_cond fun A B => ?_); simp only [go_sem, Int.cast_ofNat_Int, Nat.reduceEqDiff, reduceIte, Nat.reduceAdd, Nat.reduceMul, Nat.reduceLeDiff, Nat.reduceSub, Nat.reduceLT, Nat.zero_lt_succ, Int.reduceToNat, Int.reduceAdd, Int.reduceSub, Int.reduceMul, Int.reduceNeg, Int.reduceLT, Int.reduceLE, Int.reduceEq, Int.reduceBEq, Int.reduceBNe, Nat.reduceBEq, List.reduceReplicate, awakeCon_f, awakeCon_c, con12_f, fewCon_f, fewCon_c, slS_sl, e1, h2, ht]; first | (with_reducible refine A.h ?_) | (with_reducible refine B.h ?_) | refine And.intro (fun hc => A.h ?_) (fun hc => B.h ?_))
      | simp only [thenQ_n, thenQ_r, thenQ_e, blockQ_n, blockQ_r, blockQ_e, scopeQ_n, scopeQ_r, scopeQ_e, Nat.reduceEqDiff, reduceIte]
      | (with_reducible refine And.intro ?_ ?_)
      | with_reducible intro vr)
    refine end_ret rfl ?_
    simp only [fin, go_sem, Int.cast_ofNat_Int, Nat.reduceEqDiff, reduceIte, Nat.reduceAdd, Nat.reduceMul, Nat.reduceLeDiff, Nat.reduceSub, Nat.reduceLT, Nat.zero_lt_succ, Int.reduceToNat, Int.reduceAdd, Int.reduceSub, Int.reduceMul, Int.reduceNeg, Int.reduceLT, Int.reduceLE, Int.reduceEq, Int.reduceBEq, Int.reduceBNe, Nat.reduceBEq, List.reduceReplicate]
    exact LeA.refl _
  have e2 : few t 20 100 = true := by simpa using h2
  by_cases h3 : rest.length > 100
  · have e3 : decide ((rest.length : Int) > 100) = true := decide_eq_true (by omega)
    refine pc_of E80_ok mixed (fun _ => [0, 1, 2, 6, 7, 8, 9, 10, 11, 12, 14, 27, 35, 53, 75, 79, 104, 108, 121]) Try.func9 rfl (by kernel_rfl) (Nat.le_of_ble_eq_true rfl) ?_
    simp only [initF_cons, initF_nil, Nat.reduceAdd]
    refine t_name fun KF => ?_
    unfold E80
    repeat' (first
      | with_reducible refine t_seq fun K => ?_
      | with_reducible refine t_block ?_
      | with_reducible refine t_scope ?_
      | with_reducible refine t_label ?_
      | with_reducible refine t_skip ?_
      | with_reducible refine t_exit ?_
      | with_reducible refine t_ret ?_
      | with_reducible refine t_k ?_
      | (with_reducible refine t_gF ?_)
      | ((first | with_reducible refine t_kE ?_ | with_reducible refine t_kD ?_ | with_reducible refine t_gS ?_ | with_reducible refine t_kL ?_ | (with_reducible refine t_kLE ?_ ?_; rotate_left) | with_reducible refine t_region fun K => ?_ | with_reducible refine t_drawE (id := 9) (fun _ => true) [(0, true), (1, true), (2, true), (3, true), (4, true), (6, true), (7, true), (8, true), (9, true), (10, true), (5, false), (11, false), (12, true)] (by kernel_rfl) fun K => ?_ | with_reducible refine t_drawE (id := 20) (fun _ => false) [(0, true), (1, true), (2, true), (3, true), (4, true), (5, true), (6, true), (7, true), (9, true), (10, true), (11, true), (12, true), (8, false), (13, true), (14, true), (16, true), (17, true), (18, true), (19, true), (20, true), (15, false), (21, true), (22, true)] (by kernel_rfl) fun K => ?_ | with_reducible refine t_drawE (id := 25) (fun _ => false) [(0, true), (1, true), (2, true), (3, true), (4, true), (6, true), (7, true), (8, true), (9, true), (5, false), (10, true)] (by kernel_rfl) fun K => ?_ | with_reducible refine t_draw (by kernel_rfl) fun K => ?_); simp only [go_sem, Int.cast_ofNat_Int, Nat.reduceEqDiff, reduceIte, Nat.reduceAdd, Nat.reduceMul, Nat.reduceLeDiff, Nat.reduceSub, Nat.reduceLT, Nat.zero_lt_succ, Int.reduceToNat, Int.reduceAdd, Int.reduceSub, Int.reduceMul, Int.reduceNeg, Int.reduceLT, Int.reduceLE, Int.reduceEq, Int.reduceBEq, Int.reduceBNe, Nat.reduceBEq, List.reduceReplicate, awakeCon_f, awakeCon_c, con12_f, fewCon_f, fewCon_c, slS_sl, e1, e2, e3, ht])
      | (with_reducible exact kp_nil)
      | (with_reducible exact Kp.refl _)
      | (with_reducible exact kp_to)
      | (with_reducible refine kp_cons ?_)
      | (with_reducible refine kp_arr ?_)
      | (with_reducible refine kp_app ?_)
      | ((with_reducible refine t_cond fun A B => ?_); simp only [go_sem, Int.cast_ofNat_Int, Nat.reduceEqDiff, reduceIte, Nat.reduceAdd, Nat.reduceMul, Nat.reduceLeDiff, Nat.reduceSub, Nat.reduceLT, Nat.zero_lt_succ, Int.reduceToNat, Int.reduceAdd, Int.reduceSub, Int.reduceMul, Int.reduceNeg, Int.reduceLT, Int.reduceLE, Int.reduceEq, Int.reduceBEq, Int.reduceBNe, Nat.reduceBEq, List.reduceReplicate, awakeCon_f, awakeCon_c, con12_f, fewCon_f, fewCon_c, slS_sl, e1, e2, e3, ht]; first | (with_reducible refine A.h ?_) | (with_reducible refine B.h ?_) | refine And.intro (fun hc => A.h ?_) (fun hc => B.h ?_))
      | simp only [thenQ_n, thenQ_r, thenQ_e, blockQ_n, blockQ_r, blockQ_e, scopeQ_n, scopeQ_r, scopeQ_e, Nat.reduceEqDiff, reduceIte]
      | (with_reducible refine And.intro ?_ ?_)
      | with_reducible intro vr)
    refine end_ret rfl ?_
    simp only [fin, go_sem, Int.cast_ofNat_Int, Nat.reduceEqDiff, reduceIte, Nat.reduceAdd, Nat.reduceMul, Nat.reduceLeDiff, Nat.reduceSub, Nat.reduceLT, Nat.zero_lt_succ, Int.reduceToNat, Int.reduceAdd, Int.reduceSub, Int.reduceMul, Int.reduceNeg, Int.reduceLT, Int.reduceLE, Int.reduceEq, Int.reduceBEq, Int.reduceBNe, Nat.reduceBEq, List.reduceReplicate]
    exact LeA.refl _
  have e3 : decide ((rest.length : Int) > 100) = false := decide_eq_false (by omega)
  obtain ⟨t1, t2⟩ := few_true e2
  have t3 : ∀ s ∈ t, s.size ≤ 1000 := fun s hs => by have := t2 s hs; omega
  have hel := enc_len (l.length : Int)
  have het := enc_len (t.length : Int)
  have hL := encL_len l
  have hS := encS_len t t3
  have hP := encP_len l
  -- all that is written
  have r1 : manyS (fun a e => numS a e (-9223372036854775808) 9223372036854775807 2) (enc (l.length : Int) ++ encL l ++ (enc (t.length : Int) ++ encS t ++ (encP l ++ (encS t ++ rest)))) 0 20 = (l, enc (t.length : Int) ++ encS t ++ (encP l ++ (encS t ++ rest)), 0) :=
    many_ints (by omega) (by omega) (fun n hn => ⟨hi n hn, (hi n hn).1, (hi n hn).2⟩) _
  have r2 : manyS (fun a e => wordS a e 100) (enc (t.length : Int) ++ encS t ++ (encP l ++ (encS t ++ rest))) 0 20 = (t, encP l ++ (encS t ++ rest), 0) :=
    many_texts (by omega) (by omega) (fun s hs => ⟨by have := t2 s hs; omega, by have := t3 s hs; omega⟩) _
  have b2 : okL (enc (t.length : Int) ++ encS t ++ (encP l ++ (encS t ++ rest))) := ⟨by simp only [List.length_append]; omega, byt_app (byt_app (enc_byt _) (encS_byt t)) (byt_app (encP_byt l) (byt_app (encS_byt t) hr))⟩
  have b1 : okL (enc (l.length : Int) ++ encL l ++ (enc (t.length : Int) ++ encS t ++ (encP l ++ (encS t ++ rest)))) := ⟨by simp only [List.length_append]; omega, byt_app (byt_app (enc_byt _) (encL_byt l)) b2.2⟩
  have hrun : ∀ {α : Type} (z : α) (a : List Int) (x : α × List Int × Int), x.2.2 = 0 → runS z a 0 x = x := by
    intro α z a x hx
    unfold runS
    rw [if_neg (by simp), if_neg (by simpa using hx)]
  have rd0 : ∀ X v, rdK .u8 [.arr 5 1 (ints .u8 X) v false] (.arr 0 v) = some X := fun X v => rdK_arr rfl
  refine pc_of E80_ok mixed (fun _ => [0, 1, 2, 6, 7, 8, 9, 10, 11, 12, 14, 27, 35, 53, 75, 79, 104, 108, 121]) Try.func9 rfl (by kernel_rfl) (Nat.le_of_ble_eq_true rfl) ?_
  simp only [initF_cons, initF_nil, Nat.reduceAdd]
  refine t_name fun KF => ?_
  unfold E80
  repeat' (first
    | with_reducible refine t_seq fun K => ?_
    | with_reducible refine t_block ?_
    | with_reducible refine t_scope ?_
    | with_reducible refine t_label ?_
    | with_reducible refine t_skip ?_
    | with_reducible refine t_exit ?_
    | with_reducible refine t_ret ?_
    | with_reducible refine t_k ?_
    | (with_reducible refine t_gF ?_)
    | ((first | with_reducible refine t_kE ?_ | with_reducible refine t_kD ?_ | with_reducible refine t_gS ?_ | with_reducible refine t_kL ?_ | (with_reducible refine t_kLE ?_ ?_; rotate_left) | with_reducible refine t_region fun K => ?_ | with_reducible refine t_drawE (id := 9) (fun _ => true) [(0, true), (1, true), (2, true), (3, true), (4, true), (6, true), (7, true), (8, true), (9, true), (10, true), (5, false), (11, false), (12, true)] (by kernel_rfl) fun K => ?_ | with_reducible refine t_drawE (id := 20) (fun _ => false) [(0, true), (1, true), (2, true), (3, true), (4, true), (5, true), (6, true), (7, true), (9, true), (10, true), (11, true), (12, true), (8, false), (13, true), (14, true), (16, true), (17, true), (18, true), (19, true), (20, true), (15, false), (21, true), (22, true)] (by kernel_rfl) fun K => ?_ | with_reducible refine t_drawE (id := 25) (fun _ => false) [(0, true), (1, true), (2, true), (3, true), (4, true), (6, true), (7, true), (8, true), (9, true), (5, false), (10, true)] (by kernel_rfl) fun K => ?_ | with_reducible refine t_draw (by kernel_rfl) fun K => ?_); simp only [go_sem, Int.cast_ofNat_Int, Nat.reduceEqDiff, reduceIte, Nat.reduceAdd, Nat.reduceMul, Nat.reduceLeDiff, Nat.reduceSub, Nat.reduceLT, Nat.zero_lt_succ, Int.reduceToNat, Int.reduceAdd, Int.reduceSub, Int.reduceMul, Int.reduceNeg, Int.reduceLT, Int.reduceLE, Int.reduceEq, Int.reduceBEq, Int.reduceBNe, Nat.reduceBEq, List.reduceReplicate, awakeCon_f, awakeCon_c, con12_f, sameICon_f, sameTCon_f, fewCon_f, fewCon_c, slS_sl, e1, e2, e3, ht, intsR_f, intsR_c, withK_ints, bytesC, rdK_nil])
    | (with_reducible exact kp_nil)
    | (with_reducible exact Kp.refl _)
    | (with_reducible exact kp_to)
    | (with_reducible refine kp_cons ?_)
    | (with_reducible refine kp_arr ?_)
    | (with_reducible refine kp_app ?_)
    | ((with_reducible refine t_cond fun A B => ?_); simp only [go_sem, Int.cast_ofNat_Int, Nat.reduceEqDiff, reduceIte, Nat.reduceAdd, Nat.reduceMul, Nat.reduceLeDiff, Nat.reduceSub, Nat.reduceLT, Nat.zero_lt_succ, Int.reduceToNat, Int.reduceAdd, Int.reduceSub, Int.reduceMul, Int.reduceNeg, Int.reduceLT, Int.reduceLE, Int.reduceEq, Int.reduceBEq, Int.reduceBNe, Nat.reduceBEq, List.reduceReplicate, awakeCon_f, awakeCon_c, con12_f, sameICon_f, sameTCon_f, fewCon_f, fewCon_c, slS_sl, e1, e2, e3, ht, intsR_f, intsR_c, withK_ints, bytesC, rdK_nil]; first | (with_reducible refine A.h ?_) | (with_reducible refine B.h ?_) | refine And.intro (fun hc => A.h ?_) (fun hc => B.h ?_))
    | simp only [thenQ_n, thenQ_r, thenQ_e, blockQ_n, blockQ_r, blockQ_e, scopeQ_n, scopeQ_r, scopeQ_e, Nat.reduceEqDiff, reduceIte]
    | (with_reducible refine And.intro ?_ ?_)
    | with_reducible intro vr)
  all_goals try (intros; (try simp only [Bool.and_eq_true, Bool.or_eq_true, Bool.not_eq_true', decide_eq_true_eq, decide_eq_false_iff_not, beq_iff_eq, bne_iff_ne, ne_eq, inI64, List.length_append] at *) <;> omega)
  · exact hi _ (by assumption)
  unfold newB
  intro v0
  repeat' (first
    | with_reducible refine t_seq fun K => ?_
    | with_reducible refine t_block ?_
    | with_reducible refine t_scope ?_
    | with_reducible refine t_label ?_
    | with_reducible refine t_skip ?_
    | with_reducible refine t_exit ?_
    | with_reducible refine t_ret ?_
    | with_reducible refine t_k ?_
    | (with_reducible refine t_gF ?_)
    | ((first | with_reducible refine t_kE ?_ | with_reducible refine t_kD ?_ | with_reducible refine t_gS ?_ | with_reducible refine t_kL ?_ | (with_reducible refine t_kLE ?_ ?_; rotate_left) | with_reducible refine t_region fun K => ?_ | with_reducible refine t_drawE (id := 9) (fun _ => true) [(0, true), (1, true), (2, true), (3, true), (4, true), (6, true), (7, true), (8, true), (9, true), (10, true), (5, false), (11, false), (12, true)] (by kernel_rfl) fun K => ?_ | with_reducible refine t_drawE (id := 20) (fun _ => false) [(0, true), (1, true), (2, true), (3, true), (4, true), (5, true), (6, true), (7, true), (9, true), (10, true), (11, true), (12, true), (8, false), (13, true), (14, true), (16, true), (17, true), (18, true), (19, true), (20, true), (15, false), (21, true), (22, true)] (by kernel_rfl) fun K => ?_ | with_reducible refine t_drawE (id := 25) (fun _ => false) [(0, true), (1, true), (2, true), (3, true), (4, true), (6, true), (7, true), (8, true), (9, true), (5, false), (10, true)] (by kernel_rfl) fun K => ?_ | with_reducible refine t_draw (by kernel_rfl) fun K => ?_); simp only [go_sem, Int.cast_ofNat_Int, Nat.reduceEqDiff, reduceIte, Nat.reduceAdd, Nat.reduceMul, Nat.reduceLeDiff, Nat.reduceSub, Nat.reduceLT, Nat.zero_lt_succ, Int.reduceToNat, Int.reduceAdd, Int.reduceSub, Int.reduceMul, Int.reduceNeg, Int.reduceLT, Int.reduceLE, Int.reduceEq, Int.reduceBEq, Int.reduceBNe, Nat.reduceBEq, List.reduceReplicate, awakeCon_f, con12_f, fewCon_f, sameICon_f, sameTCon_f, intsR_f, textsR_f, intR_f, boolR_f, textR_f, srcintCon_f, methBCon_f, methWCon_f, methICon_f, methTCon_f, textsR_c, withS_strs, bytesC, rd0])
    | (with_reducible exact kp_nil)
    | (with_reducible exact Kp.refl _)
    | (with_reducible exact kp_to)
    | (with_reducible refine kp_cons ?_)
    | (with_reducible refine kp_arr ?_)
    | (with_reducible refine kp_app ?_)
    | ((with_reducible refine t_cond fun A B => ?_); simp only [go_sem, Int.cast_ofNat_Int, Nat.reduceEqDiff, reduceIte, Nat.reduceAdd, Nat.reduceMul, Nat.reduceLeDiff, Nat.reduceSub, Nat.reduceLT, Nat.zero_lt_succ, Int.reduceToNat, Int.reduceAdd, Int.reduceSub, Int.reduceMul, Int.reduceNeg, Int.reduceLT, Int.reduceLE, Int.reduceEq, Int.reduceBEq, Int.reduceBNe, Nat.reduceBEq, List.reduceReplicate, awakeCon_f, con12_f, fewCon_f, sameICon_f, sameTCon_f, intsR_f, textsR_f, intR_f, boolR_f, textR_f, srcintCon_f, methBCon_f, methWCon_f, methICon_f, methTCon_f, textsR_c, withS_strs, bytesC, rd0]; first | (with_reducible refine A.h ?_) | (with_reducible refine B.h ?_) | refine And.intro (fun hc => A.h ?_) (fun hc => B.h ?_))
    | simp only [thenQ_n, thenQ_r, thenQ_e, blockQ_n, blockQ_r, blockQ_e, scopeQ_n, scopeQ_r, scopeQ_e, Nat.reduceEqDiff, reduceIte]
    | (with_reducible refine And.intro ?_ ?_)
    | with_reducible intro vr)
  all_goals try (intros; (try simp only [Bool.and_eq_true, Bool.or_eq_true, Bool.not_eq_true', decide_eq_true_eq, decide_eq_false_iff_not, beq_iff_eq, bne_iff_ne, ne_eq, inI64, List.length_append] at *) <;> omega)
  · exact t3 _ (by assumption)
  unfold newB
  intro v1
  repeat' (first
    | with_reducible refine t_seq fun K => ?_
    | with_reducible refine t_block ?_
    | with_reducible refine t_scope ?_
    | with_reducible refine t_label ?_
    | with_reducible refine t_skip ?_
    | with_reducible refine t_exit ?_
    | with_reducible refine t_ret ?_
    | with_reducible refine t_k ?_
    | (with_reducible refine t_gF ?_)
    | ((first | with_reducible refine t_kE ?_ | with_reducible refine t_kD ?_ | with_reducible refine t_gS ?_ | with_reducible refine t_kL ?_ | (with_reducible refine t_kLE ?_ ?_; rotate_left) | with_reducible refine t_region fun K => ?_ | with_reducible refine t_drawE (id := 9) (fun _ => true) [(0, true), (1, true), (2, true), (3, true), (4, true), (6, true), (7, true), (8, true), (9, true), (10, true), (5, false), (11, false), (12, true)] (by kernel_rfl) fun K => ?_ | with_reducible refine t_drawE (id := 20) (fun _ => false) [(0, true), (1, true), (2, true), (3, true), (4, true), (5, true), (6, true), (7, true), (9, true), (10, true), (11, true), (12, true), (8, false), (13, true), (14, true), (16, true), (17, true), (18, true), (19, true), (20, true), (15, false), (21, true), (22, true)] (by kernel_rfl) fun K => ?_ | with_reducible refine t_drawE (id := 25) (fun _ => false) [(0, true), (1, true), (2, true), (3, true), (4, true), (6, true), (7, true), (8, true), (9, true), (5, false), (10, true)] (by kernel_rfl) fun K => ?_ | with_reducible refine t_draw (by kernel_rfl) fun K => ?_); simp only [go_sem, Int.cast_ofNat_Int, Nat.reduceEqDiff, reduceIte, Nat.reduceAdd, Nat.reduceMul, Nat.reduceLeDiff, Nat.reduceSub, Nat.reduceLT, Nat.zero_lt_succ, Int.reduceToNat, Int.reduceAdd, Int.reduceSub, Int.reduceMul, Int.reduceNeg, Int.reduceLT, Int.reduceLE, Int.reduceEq, Int.reduceBEq, Int.reduceBNe, Nat.reduceBEq, List.reduceReplicate])
    | (with_reducible exact kp_nil)
    | (with_reducible exact Kp.refl _)
    | (with_reducible exact kp_to)
    | (with_reducible refine kp_cons ?_)
    | (with_reducible refine kp_arr ?_)
    | (with_reducible refine kp_app ?_)
    | ((with_reducible refine t_cond fun A B => ?_); simp only [go_sem, Int.cast_ofNat_Int, Nat.reduceEqDiff, reduceIte, Nat.reduceAdd, Nat.reduceMul, Nat.reduceLeDiff, Nat.reduceSub, Nat.reduceLT, Nat.zero_lt_succ, Int.reduceToNat, Int.reduceAdd, Int.reduceSub, Int.reduceMul, Int.reduceNeg, Int.reduceLT, Int.reduceLE, Int.reduceEq, Int.reduceBEq, Int.reduceBNe, Nat.reduceBEq, List.reduceReplicate]; first | (with_reducible refine A.h ?_) | (with_reducible refine B.h ?_) | refine And.intro (fun hc => A.h ?_) (fun hc => B.h ?_))
    | simp only [thenQ_n, thenQ_r, thenQ_e, blockQ_n, blockQ_r, blockQ_e, scopeQ_n, scopeQ_r, scopeQ_e, Nat.reduceEqDiff, reduceIte]
    | (with_reducible refine And.intro ?_ ?_)
    | with_reducible intro vr)
  refine t_loop (ι := { i : Nat // i ≤ l.length } × List AObj × Nat) (fun i => ⟨upd (upd (upd (upd (upd topF 8 (.lit (.int .i64 i.1.1))) 7 (.arr i.2.1.length i.2.2)) 2 (.sl false 1 (ints .u8 rest))) 1 (.sl false 1 (strs t))) 0 (.sl false 1 (ints .i64 l)),
    i.2.1 ++ [.arr 5 1 (ints .u8 (enc (l.length : Int) ++ encL l ++ (enc (t.length : Int) ++ encS t) ++ encP (l.take i.1.1))) i.2.2 false]⟩) (fun i => l.length - i.1.1) (⟨0, by omega⟩, [.arr 5 1 (ints .u8 (enc (l.length : Int) ++ encL l)) v0 false], v1) ?_ ?_
  · skip
    (refine Le.frameS ?gs1 ?_; rotate_left; repeat' (first | exact leF_top _ | (with_reducible refine leF_sl ?_ ?_) | (refine leF_upd (LeR.of_eq ?_) ?_))) <;> (try (simp only [go_sem, Int.cast_ofNat_Int, Nat.reduceEqDiff, reduceIte, Nat.reduceAdd, Nat.reduceMul, Nat.reduceLeDiff, Nat.reduceSub, Nat.reduceLT, Nat.zero_lt_succ, Int.reduceToNat, Int.reduceAdd, Int.reduceSub, Int.reduceMul, Int.reduceNeg, Int.reduceLT, Int.reduceLE, Int.reduceEq, Int.reduceBEq, Int.reduceBNe, Nat.reduceBEq, List.reduceReplicate]; try rfl))
    case gs1 => simp [encP, List.append_assoc]
    all_goals rfl
  rintro ⟨⟨i, hil⟩, g, v⟩ K0
  have hPi := encP_len (l.take i)
  have hPl : (l.take i).length ≤ 20 := by rw [List.length_take]; omega
  rcases Nat.lt_or_ge i l.length with hc | hc
  · have g1 : decide ((i : Int) < (l.length : Int)) = true := decide_eq_true (by omega)
    have gel := ints_getD .i64 l i hc
    have hin : inI64 (l.getD i 0) := hi _ (by rw [getD_elem _ _ hc]; exact List.getElem_mem hc)
    have hen := enc_len (l.getD i 0)
    have k1 : ∀ X w, (g ++ [AObj.arr 5 1 (ints .u8 X) w false])[g.length]? = some (.arr 5 1 (ints .u8 X) w false) := fun X w => getA0 rfl
    have k2 : ∀ A X w, (g ++ [A, AObj.arr 5 1 (ints .u8 X) w false])[g.length + 1]? = some (.arr 5 1 (ints .u8 X) w false) := fun A X w => getA rfl
    have q1 : ∀ X w, rdK .u8 (g ++ [AObj.arr 5 1 (ints .u8 X) w false]) (.arr g.length w) = some X := fun X w => rdK_arr (k1 X w)
    have q2 : ∀ A X w, rdK .u8 (g ++ [A, AObj.arr 5 1 (ints .u8 X) w false]) (.arr (g.length + 1) w) = some X := fun A X w => rdK_arr (k2 A X w)
    repeat' (first
      | with_reducible refine t_seq fun K => ?_
      | with_reducible refine t_block ?_
      | with_reducible refine t_scope ?_
      | with_reducible refine t_label ?_
      | with_reducible refine t_skip ?_
      | with_reducible refine t_exit ?_
      | with_reducible refine t_ret ?_
      | with_reducible refine t_k ?_
      | (with_reducible refine t_gF ?_)
      | ((first | with_reducible refine t_kE ?_ | with_reducible refine t_kD ?_ | with_reducible refine t_gS ?_ | with_reducible refine t_kL ?_ | (with_reducible refine t_kLE ?_ ?_; rotate_left) | with_reducible refine t_region fun K => ?_ | with_reducible refine t_drawE (id := 9) (fun _ => true) [(0, true), (1, true), (2, true), (3, true), (4, true), (6, true), (7, true), (8, true), (9, true), (10, true), (5, false), (11, false), (12, true)] (by kernel_rfl) fun K => ?_ | with_reducible refine t_drawE (id := 20) (fun _ => false) [(0, true), (1, true), (2, true), (3, true), (4, true), (5, true), (6, true), (7, true), (9, true), (10, true), (11, true), (12, true), (8, false), (13, true), (14, true), (16, true), (17, true), (18, true), (19, true), (20, true), (15, false), (21, true), (22, true)] (by kernel_rfl) fun K => ?_ | with_reducible refine t_drawE (id := 25) (fun _ => false) [(0, true), (1, true), (2, true), (3, true), (4, true), (6, true), (7, true), (8, true), (9, true), (5, false), (10, true)] (by kernel_rfl) fun K => ?_ | with_reducible refine t_draw (by kernel_rfl) fun K => ?_); simp only [go_sem, Int.cast_ofNat_Int, Nat.reduceEqDiff, reduceIte, Nat.reduceAdd, Nat.reduceMul, Nat.reduceLeDiff, Nat.reduceSub, Nat.reduceLT, Nat.zero_lt_succ, Int.reduceToNat, Int.reduceAdd, Int.reduceSub, Int.reduceMul, Int.reduceNeg, Int.reduceLT, Int.reduceLE, Int.reduceEq, Int.reduceBEq, Int.reduceBNe, Nat.reduceBEq, List.reduceReplicate, g1, Int.toNat_natCast, gel, awakeCon_f, con12_f, fewCon_f, sameICon_f, sameTCon_f, intsR_f, textsR_f, intR_f, boolR_f, textR_f, srcintCon_f, methBCon_f, methWCon_f, methICon_f, methTCon_f, intR_c, k1, q1, bytesC, hin])
      | (with_reducible exact kp_nil)
      | (with_reducible exact Kp.refl _)
      | (with_reducible exact kp_to)
      | (with_reducible refine kp_cons ?_)
      | (with_reducible refine kp_arr ?_)
      | (with_reducible refine kp_app ?_)
      | ((with_reducible refine t_cond fun A B => ?_); simp only [go_sem, Int.cast_ofNat_Int, Nat.reduceEqDiff, reduceIte, Nat.reduceAdd, Nat.reduceMul, Nat.reduceLeDiff, Nat.reduceSub, Nat.reduceLT, Nat.zero_lt_succ, Int.reduceToNat, Int.reduceAdd, Int.reduceSub, Int.reduceMul, Int.reduceNeg, Int.reduceLT, Int.reduceLE, Int.reduceEq, Int.reduceBEq, Int.reduceBNe, Nat.reduceBEq, List.reduceReplicate, g1, Int.toNat_natCast, gel, awakeCon_f, con12_f, fewCon_f, sameICon_f, sameTCon_f, intsR_f, textsR_f, intR_f, boolR_f, textR_f, srcintCon_f, methBCon_f, methWCon_f, methICon_f, methTCon_f, intR_c, k1, q1, bytesC, hin]; first | (with_reducible refine A.h ?_) | (with_reducible refine B.h ?_) | refine And.intro (fun hc => A.h ?_) (fun hc => B.h ?_))
      | simp only [thenQ_n, thenQ_r, thenQ_e, blockQ_n, blockQ_r, blockQ_e, scopeQ_n, scopeQ_r, scopeQ_e, Nat.reduceEqDiff, reduceIte]
      | (with_reducible refine And.intro ?_ ?_)
      | with_reducible intro vr)
    all_goals try (intros; (try simp only [Bool.and_eq_true, Bool.or_eq_true, Bool.not_eq_true', decide_eq_true_eq, decide_eq_false_iff_not, beq_iff_eq, bne_iff_ne, ne_eq, inI64, List.length_append] at *) <;> omega)
    unfold newB
    intro w0
    repeat' (first
      | with_reducible refine t_seq fun K => ?_
      | with_reducible refine t_block ?_
      | with_reducible refine t_scope ?_
      | with_reducible refine t_label ?_
      | with_reducible refine t_skip ?_
      | with_reducible refine t_exit ?_
      | with_reducible refine t_ret ?_
      | with_reducible refine t_k ?_
      | (with_reducible refine t_gF ?_)
      | ((first | with_reducible refine t_kE ?_ | with_reducible refine t_kD ?_ | with_reducible refine t_gS ?_ | with_reducible refine t_kL ?_ | (with_reducible refine t_kLE ?_ ?_; rotate_left) | with_reducible refine t_region fun K => ?_ | with_reducible refine t_drawE (id := 9) (fun _ => true) [(0, true), (1, true), (2, true), (3, true), (4, true), (6, true), (7, true), (8, true), (9, true), (10, true), (5, false), (11, false), (12, true)] (by kernel_rfl) fun K => ?_ | with_reducible refine t_drawE (id := 20) (fun _ => false) [(0, true), (1, true), (2, true), (3, true), (4, true), (5, true), (6, true), (7, true), (9, true), (10, true), (11, true), (12, true), (8, false), (13, true), (14, true), (16, true), (17, true), (18, true), (19, true), (20, true), (15, false), (21, true), (22, true)] (by kernel_rfl) fun K => ?_ | with_reducible refine t_drawE (id := 25) (fun _ => false) [(0, true), (1, true), (2, true), (3, true), (4, true), (6, true), (7, true), (8, true), (9, true), (5, false), (10, true)] (by kernel_rfl) fun K => ?_ | with_reducible refine t_draw (by kernel_rfl) fun K => ?_); simp only [go_sem, Int.cast_ofNat_Int, Nat.reduceEqDiff, reduceIte, Nat.reduceAdd, Nat.reduceMul, Nat.reduceLeDiff, Nat.reduceSub, Nat.reduceLT, Nat.zero_lt_succ, Int.reduceToNat, Int.reduceAdd, Int.reduceSub, Int.reduceMul, Int.reduceNeg, Int.reduceLT, Int.reduceLE, Int.reduceEq, Int.reduceBEq, Int.reduceBNe, Nat.reduceBEq, List.reduceReplicate, awakeCon_f, con12_f, fewCon_f, sameICon_f, sameTCon_f, intsR_f, textsR_f, intR_f, boolR_f, textR_f, srcintCon_f, methBCon_f, methWCon_f, methICon_f, methTCon_f, boolR_c, k2, q2, bytesC])
      | (with_reducible exact kp_nil)
      | (with_reducible exact Kp.refl _)
      | (with_reducible exact kp_to)
      | (with_reducible refine kp_cons ?_)
      | (with_reducible refine kp_arr ?_)
      | (with_reducible refine kp_app ?_)
      | ((with_reducible refine t_cond fun A B => ?_); simp only [go_sem, Int.cast_ofNat_Int, Nat.reduceEqDiff, reduceIte, Nat.reduceAdd, Nat.reduceMul, Nat.reduceLeDiff, Nat.reduceSub, Nat.reduceLT, Nat.zero_lt_succ, Int.reduceToNat, Int.reduceAdd, Int.reduceSub, Int.reduceMul, Int.reduceNeg, Int.reduceLT, Int.reduceLE, Int.reduceEq, Int.reduceBEq, Int.reduceBNe, Nat.reduceBEq, List.reduceReplicate, awakeCon_f, con12_f, fewCon_f, sameICon_f, sameTCon_f, intsR_f, textsR_f, intR_f, boolR_f, textR_f, srcintCon_f, methBCon_f, methWCon_f, methICon_f, methTCon_f, boolR_c, k2, q2, bytesC]; first | (with_reducible refine A.h ?_) | (with_reducible refine B.h ?_) | refine And.intro (fun hc => A.h ?_) (fun hc => B.h ?_))
      | simp only [thenQ_n, thenQ_r, thenQ_e, blockQ_n, blockQ_r, blockQ_e, scopeQ_n, scopeQ_r, scopeQ_e, Nat.reduceEqDiff, reduceIte]
      | (with_reducible refine And.intro ?_ ?_)
      | with_reducible intro vr)
    all_goals try (intros; (try simp only [Bool.and_eq_true, Bool.or_eq_true, Bool.not_eq_true', decide_eq_true_eq, decide_eq_false_iff_not, beq_iff_eq, bne_iff_ne, ne_eq, inI64, List.length_append] at *) <;> omega)
    unfold newB
    intro w1
    repeat' (first
      | with_reducible refine t_seq fun K => ?_
      | with_reducible refine t_block ?_
      | with_reducible refine t_scope ?_
      | with_reducible refine t_label ?_
      | with_reducible refine t_skip ?_
      | with_reducible refine t_exit ?_
      | with_reducible refine t_ret ?_
      | with_reducible refine t_k ?_
      | (with_reducible refine t_gF ?_)
      | ((first | with_reducible refine t_kE ?_ | with_reducible refine t_kD ?_ | with_reducible refine t_gS ?_ | with_reducible refine t_kL ?_ | (with_reducible refine t_kLE ?_ ?_; rotate_left) | with_reducible refine t_region fun K => ?_ | with_reducible refine t_drawE (id := 9) (fun _ => true) [(0, true), (1, true), (2, true), (3, true), (4, true), (6, true), (7, true), (8, true), (9, true), (10, true), (5, false), (11, false), (12, true)] (by kernel_rfl) fun K => ?_ | with_reducible refine t_drawE (id := 20) (fun _ => false) [(0, true), (1, true), (2, true), (3, true), (4, true), (5, true), (6, true), (7, true), (9, true), (10, true), (11, true), (12, true), (8, false), (13, true), (14, true), (16, true), (17, true), (18, true), (19, true), (20, true), (15, false), (21, true), (22, true)] (by kernel_rfl) fun K => ?_ | with_reducible refine t_drawE (id := 25) (fun _ => false) [(0, true), (1, true), (2, true), (3, true), (4, true), (6, true), (7, true), (8, true), (9, true), (5, false), (10, true)] (by kernel_rfl) fun K => ?_ | with_reducible refine t_draw (by kernel_rfl) fun K => ?_); simp only [go_sem, Int.cast_ofNat_Int, Nat.reduceEqDiff, reduceIte, Nat.reduceAdd, Nat.reduceMul, Nat.reduceLeDiff, Nat.reduceSub, Nat.reduceLT, Nat.zero_lt_succ, Int.reduceToNat, Int.reduceAdd, Int.reduceSub, Int.reduceMul, Int.reduceNeg, Int.reduceLT, Int.reduceLE, Int.reduceEq, Int.reduceBEq, Int.reduceBNe, Nat.reduceBEq, List.reduceReplicate])
      | (with_reducible exact kp_nil)
      | (with_reducible exact Kp.refl _)
      | (with_reducible exact kp_to)
      | (with_reducible refine kp_cons ?_)
      | (with_reducible refine kp_arr ?_)
      | (with_reducible refine kp_app ?_)
      | ((with_reducible refine t_cond fun A B => ?_); simp only [go_sem, Int.cast_ofNat_Int, Nat.reduceEqDiff, reduceIte, Nat.reduceAdd, Nat.reduceMul, Nat.reduceLeDiff, Nat.reduceSub, Nat.reduceLT, Nat.zero_lt_succ, Int.reduceToNat, Int.reduceAdd, Int.reduceSub, Int.reduceMul, Int.reduceNeg, Int.reduceLT, Int.reduceLE, Int.reduceEq, Int.reduceBEq, Int.reduceBNe, Nat.reduceBEq, List.reduceReplicate]; first | (with_reducible refine A.h ?_) | (with_reducible refine B.h ?_) | refine And.intro (fun hc => A.h ?_) (fun hc => B.h ?_))
      | simp only [thenQ_n, thenQ_r, thenQ_e, blockQ_n, blockQ_r, blockQ_e, scopeQ_n, scopeQ_r, scopeQ_e, Nat.reduceEqDiff, reduceIte]
      | (with_reducible refine And.intro ?_ ?_)
      | with_reducible intro vr)
    all_goals try (intros; (try simp only [Bool.and_eq_true, Bool.or_eq_true, Bool.not_eq_true', decide_eq_true_eq, decide_eq_false_iff_not, beq_iff_eq, bne_iff_ne, ne_eq, inI64, List.length_append] at *) <;> omega)
    refine ⟨(⟨i + 1, by omega⟩, g ++ [.arr 5 1 (ints .u8 (enc (l.length : Int) ++ encL l ++ (enc (t.length : Int) ++ encS t) ++ encP (l.take i))) v false, .arr 5 1 (ints .u8 (enc (l.length : Int) ++ encL l ++ (enc (t.length : Int) ++ encS t) ++ encP (l.take i) ++ enc (l.getD i 0))) w0 false], w1), by simp only; omega, ?_⟩
    (refine Le.frameS ?gs2 ?_; rotate_left; repeat' (first | exact leF_top _ | (with_reducible refine leF_sl ?_ ?_) | (refine leF_upd (LeR.of_eq ?_) ?_))) <;> (try (simp only [go_sem, Int.cast_ofNat_Int, Nat.reduceEqDiff, reduceIte, Nat.reduceAdd, Nat.reduceMul, Nat.reduceLeDiff, Nat.reduceSub, Nat.reduceLT, Nat.zero_lt_succ, Int.reduceToNat, Int.reduceAdd, Int.reduceSub, Int.reduceMul, Int.reduceNeg, Int.reduceLT, Int.reduceLE, Int.reduceEq, Int.reduceBEq, Int.reduceBNe, Nat.reduceBEq, List.reduceReplicate]; try rfl))
    case gs2 => rw [encP_step l hc]; simp only [List.append_assoc, List.cons_append, List.nil_append]
    all_goals simp
  have g1 : decide ((i : Int) < (l.length : Int)) = false := decide_eq_false (by omega)
  have : i = l.length := by omega
  subst this
  rw [List.take_length]
  repeat' (first
    | with_reducible refine t_seq fun K => ?_
    | with_reducible refine t_block ?_
    | with_reducible refine t_scope ?_
    | with_reducible refine t_label ?_
    | with_reducible refine t_skip ?_
    | with_reducible refine t_exit ?_
    | with_reducible refine t_ret ?_
    | with_reducible refine t_k ?_
    | (with_reducible refine t_gF ?_)
    | ((first | with_reducible refine t_kE ?_ | with_reducible refine t_kD ?_ | with_reducible refine t_gS ?_ | with_reducible refine t_kL ?_ | (with_reducible refine t_kLE ?_ ?_; rotate_left) | with_reducible refine t_region fun K => ?_ | with_reducible refine t_drawE (id := 9) (fun _ => true) [(0, true), (1, true), (2, true), (3, true), (4, true), (6, true), (7, true), (8, true), (9, true), (10, true), (5, false), (11, false), (12, true)] (by kernel_rfl) fun K => ?_ | with_reducible refine t_drawE (id := 20) (fun _ => false) [(0, true), (1, true), (2, true), (3, true), (4, true), (5, true), (6, true), (7, true), (9, true), (10, true), (11, true), (12, true), (8, false), (13, true), (14, true), (16, true), (17, true), (18, true), (19, true), (20, true), (15, false), (21, true), (22, true)] (by kernel_rfl) fun K => ?_ | with_reducible refine t_drawE (id := 25) (fun _ => false) [(0, true), (1, true), (2, true), (3, true), (4, true), (6, true), (7, true), (8, true), (9, true), (5, false), (10, true)] (by kernel_rfl) fun K => ?_ | with_reducible refine t_draw (by kernel_rfl) fun K => ?_); simp only [go_sem, Int.cast_ofNat_Int, Nat.reduceEqDiff, reduceIte, Nat.reduceAdd, Nat.reduceMul, Nat.reduceLeDiff, Nat.reduceSub, Nat.reduceLT, Nat.zero_lt_succ, Int.reduceToNat, Int.reduceAdd, Int.reduceSub, Int.reduceMul, Int.reduceNeg, Int.reduceLT, Int.reduceLE, Int.reduceEq, Int.reduceBEq, Int.reduceBNe, Nat.reduceBEq, List.reduceReplicate, g1])
    | (with_reducible exact kp_nil)
    | (with_reducible exact Kp.refl _)
    | (with_reducible exact kp_to)
    | (with_reducible refine kp_cons ?_)
    | (with_reducible refine kp_arr ?_)
    | (with_reducible refine kp_app ?_)
    | ((with_reducible refine t_cond fun A B => ?_); simp only [go_sem, Int.cast_ofNat_Int, Nat.reduceEqDiff, reduceIte, Nat.reduceAdd, Nat.reduceMul, Nat.reduceLeDiff, Nat.reduceSub, Nat.reduceLT, Nat.zero_lt_succ, Int.reduceToNat, Int.reduceAdd, Int.reduceSub, Int.reduceMul, Int.reduceNeg, Int.reduceLT, Int.reduceLE, Int.reduceEq, Int.reduceBEq, Int.reduceBNe, Nat.reduceBEq, List.reduceReplicate, g1]; first | (with_reducible refine A.h ?_) | (with_reducible refine B.h ?_) | refine And.intro (fun hc => A.h ?_) (fun hc => B.h ?_))
    | simp only [thenQ_n, thenQ_r, thenQ_e, blockQ_n, blockQ_r, blockQ_e, scopeQ_n, scopeQ_r, scopeQ_e, Nat.reduceEqDiff, reduceIte]
    | (with_reducible refine And.intro ?_ ?_)
    | with_reducible intro vr)
  refine t_loop (ι := { i : Nat // i ≤ t.length } × List AObj × Nat) (fun i => ⟨upd (upd (upd (upd (upd topF 9 (.lit (.int .i64 i.1.1))) 7 (.arr i.2.1.length i.2.2)) 2 (.sl false 1 (ints .u8 rest))) 1 (.sl false 1 (strs t))) 0 (.sl false 1 (ints .i64 l)),
    i.2.1 ++ [.arr 5 1 (ints .u8 (enc (l.length : Int) ++ encL l ++ (enc (t.length : Int) ++ encS t) ++ encP l ++ encS (t.take i.1.1))) i.2.2 false]⟩) (fun i => t.length - i.1.1) (⟨0, by omega⟩, g, v) ?_ ?_
  · skip
    (refine Le.frameS ?gs3 ?_; rotate_left; repeat' (first | exact leF_top _ | (with_reducible refine leF_sl ?_ ?_) | (refine leF_upd (LeR.of_eq ?_) ?_))) <;> (try (simp only [go_sem, Int.cast_ofNat_Int, Nat.reduceEqDiff, reduceIte, Nat.reduceAdd, Nat.reduceMul, Nat.reduceLeDiff, Nat.reduceSub, Nat.reduceLT, Nat.zero_lt_succ, Int.reduceToNat, Int.reduceAdd, Int.reduceSub, Int.reduceMul, Int.reduceNeg, Int.reduceLT, Int.reduceLE, Int.reduceEq, Int.reduceBEq, Int.reduceBNe, Nat.reduceBEq, List.reduceReplicate]; try rfl))
    case gs3 => simp [encS]
    all_goals rfl
  clear g1
  rintro ⟨⟨j, hjl⟩, g, v⟩ K0
  have hSj := encS_len (t.take j) fun s hs => t3 s (List.mem_of_mem_take hs)
  have hSl : (t.take j).length ≤ 20 := by rw [List.length_take]; omega
  have k1 : ∀ X w, (g ++ [AObj.arr 5 1 (ints .u8 X) w false])[g.length]? = some (.arr 5 1 (ints .u8 X) w false) := fun X w => getA0 rfl
  rcases Nat.lt_or_ge j t.length with hc | hc
  · have g1 : decide ((j : Int) < (t.length : Int)) = true := decide_eq_true (by omega)
    have gel := strs_getD t j hc
    have hsz := t3 (t.getD j ByteArray.empty) (by rw [getD_elem _ _ hc]; exact List.getElem_mem hc)
    have q1 : ∀ X w, rdK .u8 (g ++ [AObj.arr 5 1 (ints .u8 X) w false]) (.arr g.length w) = some X := fun X w => rdK_arr (k1 X w)
    repeat' (first
      | with_reducible refine t_seq fun K => ?_
      | with_reducible refine t_block ?_
      | with_reducible refine t_scope ?_
      | with_reducible refine t_label ?_
      | with_reducible refine t_skip ?_
      | with_reducible refine t_exit ?_
      | with_reducible refine t_ret ?_
      | with_reducible refine t_k ?_
      | (with_reducible refine t_gF ?_)
      | ((first | with_reducible refine t_kE ?_ | with_reducible refine t_kD ?_ | with_reducible refine t_gS ?_ | with_reducible refine t_kL ?_ | (with_reducible refine t_kLE ?_ ?_; rotate_left) | with_reducible refine t_region fun K => ?_ | with_reducible refine t_drawE (id := 9) (fun _ => true) [(0, true), (1, true), (2, true), (3, true), (4, true), (6, true), (7, true), (8, true), (9, true), (10, true), (5, false), (11, false), (12, true)] (by kernel_rfl) fun K => ?_ | with_reducible refine t_drawE (id := 20) (fun _ => false) [(0, true), (1, true), (2, true), (3, true), (4, true), (5, true), (6, true), (7, true), (9, true), (10, true), (11, true), (12, true), (8, false), (13, true), (14, true), (16, true), (17, true), (18, true), (19, true), (20, true), (15, false), (21, true), (22, true)] (by kernel_rfl) fun K => ?_ | with_reducible refine t_drawE (id := 25) (fun _ => false) [(0, true), (1, true), (2, true), (3, true), (4, true), (6, true), (7, true), (8, true), (9, true), (5, false), (10, true)] (by kernel_rfl) fun K => ?_ | with_reducible refine t_draw (by kernel_rfl) fun K => ?_); simp only [go_sem, Int.cast_ofNat_Int, Nat.reduceEqDiff, reduceIte, Nat.reduceAdd, Nat.reduceMul, Nat.reduceLeDiff, Nat.reduceSub, Nat.reduceLT, Nat.zero_lt_succ, Int.reduceToNat, Int.reduceAdd, Int.reduceSub, Int.reduceMul, Int.reduceNeg, Int.reduceLT, Int.reduceLE, Int.reduceEq, Int.reduceBEq, Int.reduceBNe, Nat.reduceBEq, List.reduceReplicate, g1, Int.toNat_natCast, gel, awakeCon_f, con12_f, fewCon_f, sameICon_f, sameTCon_f, intsR_f, textsR_f, intR_f, boolR_f, textR_f, srcintCon_f, methBCon_f, methWCon_f, methICon_f, methTCon_f, textR_c, k1, q1, bytesC])
      | (with_reducible exact kp_nil)
      | (with_reducible exact Kp.refl _)
      | (with_reducible exact kp_to)
      | (with_reducible refine kp_cons ?_)
      | (with_reducible refine kp_arr ?_)
      | (with_reducible refine kp_app ?_)
      | ((with_reducible refine t_cond fun A B => ?_); simp only [go_sem, Int.cast_ofNat_Int, Nat.reduceEqDiff, reduceIte, Nat.reduceAdd, Nat.reduceMul, Nat.reduceLeDiff, Nat.reduceSub, Nat.reduceLT, Nat.zero_lt_succ, Int.reduceToNat, Int.reduceAdd, Int.reduceSub, Int.reduceMul, Int.reduceNeg, Int.reduceLT, Int.reduceLE, Int.reduceEq, Int.reduceBEq, Int.reduceBNe, Nat.reduceBEq, List.reduceReplicate, g1, Int.toNat_natCast, gel, awakeCon_f, con12_f, fewCon_f, sameICon_f, sameTCon_f, intsR_f, textsR_f, intR_f, boolR_f, textR_f, srcintCon_f, methBCon_f, methWCon_f, methICon_f, methTCon_f, textR_c, k1, q1, bytesC]; first | (with_reducible refine A.h ?_) | (with_reducible refine B.h ?_) | refine And.intro (fun hc => A.h ?_) (fun hc => B.h ?_))
      | simp only [thenQ_n, thenQ_r, thenQ_e, blockQ_n, blockQ_r, blockQ_e, scopeQ_n, scopeQ_r, scopeQ_e, Nat.reduceEqDiff, reduceIte]
      | (with_reducible refine And.intro ?_ ?_)
      | with_reducible intro vr)
    all_goals try (intros; (try simp only [Bool.and_eq_true, Bool.or_eq_true, Bool.not_eq_true', decide_eq_true_eq, decide_eq_false_iff_not, beq_iff_eq, bne_iff_ne, ne_eq, inI64, List.length_append] at *) <;> omega)
    unfold newB
    intro w0
    repeat' (first
      | with_reducible refine t_seq fun K => ?_
      | with_reducible refine t_block ?_
      | with_reducible refine t_scope ?_
      | with_reducible refine t_label ?_
      | with_reducible refine t_skip ?_
      | with_reducible refine t_exit ?_
      | with_reducible refine t_ret ?_
      | with_reducible refine t_k ?_
      | (with_reducible refine t_gF ?_)
      | ((first | with_reducible refine t_kE ?_ | with_reducible refine t_kD ?_ | with_reducible refine t_gS ?_ | with_reducible refine t_kL ?_ | (with_reducible refine t_kLE ?_ ?_; rotate_left) | with_reducible refine t_region fun K => ?_ | with_reducible refine t_drawE (id := 9) (fun _ => true) [(0, true), (1, true), (2, true), (3, true), (4, true), (6, true), (7, true), (8, true), (9, true), (10, true), (5, false), (11, false), (12, true)] (by kernel_rfl) fun K => ?_ | with_reducible refine t_drawE (id := 20) (fun _ => false) [(0, true), (1, true), (2, true), (3, true), (4, true), (5, true), (6, true), (7, true), (9, true), (10, true), (11, true), (12, true), (8, false), (13, true), (14, true), (16, true), (17, true), (18, true), (19, true), (20, true), (15, false), (21, true), (22, true)] (by kernel_rfl) fun K => ?_ | with_reducible refine t_drawE (id := 25) (fun _ => false) [(0, true), (1, true), (2, true), (3, true), (4, true), (6, true), (7, true), (8, true), (9, true), (5, false), (10, true)] (by kernel_rfl) fun K => ?_ | with_reducible refine t_draw (by kernel_rfl) fun K => ?_); simp only [go_sem, Int.cast_ofNat_Int, Nat.reduceEqDiff, reduceIte, Nat.reduceAdd, Nat.reduceMul, Nat.reduceLeDiff, Nat.reduceSub, Nat.reduceLT, Nat.zero_lt_succ, Int.reduceToNat, Int.reduceAdd, Int.reduceSub, Int.reduceMul, Int.reduceNeg, Int.reduceLT, Int.reduceLE, Int.reduceEq, Int.reduceBEq, Int.reduceBNe, Nat.reduceBEq, List.reduceReplicate])
      | (with_reducible exact kp_nil)
      | (with_reducible exact Kp.refl _)
      | (with_reducible exact kp_to)
      | (with_reducible refine kp_cons ?_)
      | (with_reducible refine kp_arr ?_)
      | (with_reducible refine kp_app ?_)
      | ((with_reducible refine t_cond fun A B => ?_); simp only [go_sem, Int.cast_ofNat_Int, Nat.reduceEqDiff, reduceIte, Nat.reduceAdd, Nat.reduceMul, Nat.reduceLeDiff, Nat.reduceSub, Nat.reduceLT, Nat.zero_lt_succ, Int.reduceToNat, Int.reduceAdd, Int.reduceSub, Int.reduceMul, Int.reduceNeg, Int.reduceLT, Int.reduceLE, Int.reduceEq, Int.reduceBEq, Int.reduceBNe, Nat.reduceBEq, List.reduceReplicate]; first | (with_reducible refine A.h ?_) | (with_reducible refine B.h ?_) | refine And.intro (fun hc => A.h ?_) (fun hc => B.h ?_))
      | simp only [thenQ_n, thenQ_r, thenQ_e, blockQ_n, blockQ_r, blockQ_e, scopeQ_n, scopeQ_r, scopeQ_e, Nat.reduceEqDiff, reduceIte]
      | (with_reducible refine And.intro ?_ ?_)
      | with_reducible intro vr)
    all_goals try (intros; (try simp only [Bool.and_eq_true, Bool.or_eq_true, Bool.not_eq_true', decide_eq_true_eq, decide_eq_false_iff_not, beq_iff_eq, bne_iff_ne, ne_eq, inI64, List.length_append] at *) <;> omega)
    refine ⟨(⟨j + 1, by omega⟩, g ++ [.arr 5 1 (ints .u8 (enc (l.length : Int) ++ encL l ++ (enc (t.length : Int) ++ encS t) ++ encP l ++ encS (t.take j))) v false], w0), by simp only; omega, ?_⟩
    (refine Le.frameS ?gs4 ?_; rotate_left; repeat' (first | exact leF_top _ | (with_reducible refine leF_sl ?_ ?_) | (refine leF_upd (LeR.of_eq ?_) ?_))) <;> (try (simp only [go_sem, Int.cast_ofNat_Int, Nat.reduceEqDiff, reduceIte, Nat.reduceAdd, Nat.reduceMul, Nat.reduceLeDiff, Nat.reduceSub, Nat.reduceLT, Nat.zero_lt_succ, Int.reduceToNat, Int.reduceAdd, Int.reduceSub, Int.reduceMul, Int.reduceNeg, Int.reduceLT, Int.reduceLE, Int.reduceEq, Int.reduceBEq, Int.reduceBNe, Nat.reduceBEq, List.reduceReplicate]; try rfl))
    case gs4 => rw [encS_step t hc]; simp only [List.append_assoc, List.cons_append, List.nil_append]
    all_goals simp
  have g1 : decide ((j : Int) < (t.length : Int)) = false := decide_eq_false (by omega)
  have : j = t.length := by omega
  subst this
  rw [List.take_length]
  generalize hX : enc (l.length : Int) ++ encL l ++ (enc (t.length : Int) ++ encS t) ++ encP l ++ encS t ++ rest = X
  have hX' : X = enc (l.length : Int) ++ encL l ++ (enc (t.length : Int) ++ encS t ++ (encP l ++ (encS t ++ rest))) := by rw [← hX]; simp only [List.append_assoc]
  rw [← hX'] at r1 b1
  have m1 : runS ([] : List Int) X 0 (manyS (fun a e => numS a e (-9223372036854775808) 9223372036854775807 2) X 0 20) = (l, enc (t.length : Int) ++ encS t ++ (encP l ++ (encS t ++ rest)), 0) := by rw [r1]; exact hrun _ _ _ rfl
  have m2 : runS ([] : List ByteArray) (enc (t.length : Int) ++ encS t ++ (encP l ++ (encS t ++ rest))) 0 (manyS (fun a e => wordS a e 100) (enc (t.length : Int) ++ encS t ++ (encP l ++ (encS t ++ rest))) 0 20) = (t, encP l ++ (encS t ++ rest), 0) := by rw [r2]; exact hrun _ _ _ rfl
  generalize hY : enc (t.length : Int) ++ encS t ++ (encP l ++ (encS t ++ rest)) = Y at m1 m2 b2
  have s1 : ∀ A Y, (g ++ [A]).set g.length Y = g ++ [Y] := fun A Y => setA0 rfl
  have s2 : ∀ A B Y, (g ++ [A, B]).set (g.length + 1) Y = g ++ [A, Y] := fun A B Y => setA rfl
  have k3 : ∀ A B, (g ++ [A, B])[g.length + 1]? = some B := fun A B => getA rfl
  have k4 : ∀ A B, (g ++ [A, B])[g.length]? = some A := fun A B => getA0 rfl
  have s4 : ∀ A B Y, (g ++ [A, B]).set g.length Y = g ++ [Y, B] := fun A B Y => setA0 rfl
  have z1 : ∀ (w : Nat) (p : List AObj → List Int → Int → Prop), srcAt (g ++ [.arr 5 1 (ints .u8 X) w false, .box 26 [.arr g.length w, .lit (.int .i64 0)]]) (g.length + 1) p = p (g ++ [.arr 5 1 (ints .u8 X) w true, src X 0]) X 0 := by
    intro w p
    simp [srcAt, withB, Fw.clB, freezeL, freezeO, ids0, closeL0, close0, arrOf, k3, k4, s2, s4, wk, src, withK_ints]
  have z2 : ∀ (A : AObj) (r : List Int) (e : Int) (p : List AObj → List Int → Int → Prop), srcAt (g ++ [A, .box 26 [.sl false 1 (ints .u8 r), .lit (.int .i64 e)]]) (g.length + 1) p = p (g ++ [A, src r e]) r e := fun A r e p => srcAt_src (getA rfl)
  repeat' (first
    | with_reducible refine t_seq fun K => ?_
    | with_reducible refine t_block ?_
    | with_reducible refine t_scope ?_
    | with_reducible refine t_label ?_
    | with_reducible refine t_skip ?_
    | with_reducible refine t_exit ?_
    | with_reducible refine t_ret ?_
    | with_reducible refine t_k ?_
    | (with_reducible refine t_gF ?_)
    | ((first | with_reducible refine t_kE ?_ | with_reducible refine t_kD ?_ | with_reducible refine t_gS ?_ | with_reducible refine t_kL ?_ | (with_reducible refine t_kLE ?_ ?_; rotate_left) | with_reducible refine t_region fun K => ?_ | with_reducible refine t_drawE (id := 9) (fun _ => true) [(0, true), (1, true), (2, true), (3, true), (4, true), (6, true), (7, true), (8, true), (9, true), (10, true), (5, false), (11, false), (12, true)] (by kernel_rfl) fun K => ?_ | with_reducible refine t_drawE (id := 20) (fun _ => false) [(0, true), (1, true), (2, true), (3, true), (4, true), (5, true), (6, true), (7, true), (9, true), (10, true), (11, true), (12, true), (8, false), (13, true), (14, true), (16, true), (17, true), (18, true), (19, true), (20, true), (15, false), (21, true), (22, true)] (by kernel_rfl) fun K => ?_ | with_reducible refine t_drawE (id := 25) (fun _ => false) [(0, true), (1, true), (2, true), (3, true), (4, true), (6, true), (7, true), (8, true), (9, true), (5, false), (10, true)] (by kernel_rfl) fun K => ?_ | with_reducible refine t_draw (by kernel_rfl) fun K => ?_); simp only [go_sem, Int.cast_ofNat_Int, Nat.reduceEqDiff, reduceIte, Nat.reduceAdd, Nat.reduceMul, Nat.reduceLeDiff, Nat.reduceSub, Nat.reduceLT, Nat.zero_lt_succ, Int.reduceToNat, Int.reduceAdd, Int.reduceSub, Int.reduceMul, Int.reduceNeg, Int.reduceLT, Int.reduceLE, Int.reduceEq, Int.reduceBEq, Int.reduceBNe, Nat.reduceBEq, List.reduceReplicate, g1, k1, s1, s2, k3, hX, z1, z2, awakeCon_f, con12_f, fewCon_f, sameICon_f, sameTCon_f, intsR_f, textsR_f, intR_f, boolR_f, textR_f, srcintCon_f, methBCon_f, methWCon_f, methICon_f, methTCon_f, methICon_c, methTCon_c, sameICon_c, sameTCon_c, slK_sl, slS_sl, src, b1, b2, m1, m2, decide_true])
    | (with_reducible exact kp_nil)
    | (with_reducible exact Kp.refl _)
    | (with_reducible exact kp_to)
    | (with_reducible refine kp_cons ?_)
    | (with_reducible refine kp_arr ?_)
    | (with_reducible refine kp_app ?_)
    | ((with_reducible refine t_cond fun A B => ?_); simp only [go_sem, Int.cast_ofNat_Int, Nat.reduceEqDiff, reduceIte, Nat.reduceAdd, Nat.reduceMul, Nat.reduceLeDiff, Nat.reduceSub, Nat.reduceLT, Nat.zero_lt_succ, Int.reduceToNat, Int.reduceAdd, Int.reduceSub, Int.reduceMul, Int.reduceNeg, Int.reduceLT, Int.reduceLE, Int.reduceEq, Int.reduceBEq, Int.reduceBNe, Nat.reduceBEq, List.reduceReplicate, g1, k1, s1, s2, k3, hX, z1, z2, awakeCon_f, con12_f, fewCon_f, sameICon_f, sameTCon_f, intsR_f, textsR_f, intR_f, boolR_f, textR_f, srcintCon_f, methBCon_f, methWCon_f, methICon_f, methTCon_f, methICon_c, methTCon_c, sameICon_c, sameTCon_c, slK_sl, slS_sl, src, b1, b2, m1, m2, decide_true]; first | (with_reducible refine A.h ?_) | (with_reducible refine B.h ?_) | refine And.intro (fun hc => A.h ?_) (fun hc => B.h ?_))
    | simp only [thenQ_n, thenQ_r, thenQ_e, blockQ_n, blockQ_r, blockQ_e, scopeQ_n, scopeQ_r, scopeQ_e, Nat.reduceEqDiff, reduceIte]
    | (with_reducible refine And.intro ?_ ?_)
    | with_reducible intro vr)
  all_goals try (intros; (try simp only [Bool.and_eq_true, Bool.or_eq_true, Bool.not_eq_true', decide_eq_true_eq, decide_eq_false_iff_not, beq_iff_eq, bne_iff_ne, ne_eq, inI64, List.length_append] at *) <;> omega)
  have bS : byt (encS t ++ rest) := byt_app (encS_byt t) hr
  refine t_loop (ι := { i : Nat // i ≤ l.length }) (fun i => ⟨upd (upd (upd (upd (upd topF 11 (.lit (.int .i64 i.1))) 10 (.ref (g.length + 1) 0)) 2 (.sl false 1 (ints .u8 rest))) 1 (.sl false 1 (strs t))) 0 (.sl false 1 (ints .i64 l)),
    g ++ [.arr 5 1 (ints .u8 X) (v + 1) true, src (encP (l.drop i.1) ++ (encS t ++ rest)) 0]⟩) (fun i => l.length - i.1) ⟨0, by omega⟩ ?_ ?_
  · skip
    (refine Le.frameS ?gs5 ?_; rotate_left; repeat' (first | exact leF_top _ | (with_reducible refine leF_sl ?_ ?_) | (refine leF_upd (LeR.of_eq ?_) ?_))) <;> (try (simp only [go_sem, Int.cast_ofNat_Int, Nat.reduceEqDiff, reduceIte, Nat.reduceAdd, Nat.reduceMul, Nat.reduceLeDiff, Nat.reduceSub, Nat.reduceLT, Nat.zero_lt_succ, Int.reduceToNat, Int.reduceAdd, Int.reduceSub, Int.reduceMul, Int.reduceNeg, Int.reduceLT, Int.reduceLE, Int.reduceEq, Int.reduceBEq, Int.reduceBNe, Nat.reduceBEq, List.reduceReplicate]; try rfl))
    all_goals try rfl
  clear g1
  rintro ⟨i, hil⟩ K1
  have hPd := encP_len (l.drop i)
  have hPe : (l.drop i).length ≤ 20 := by rw [List.length_drop]; omega
  rcases Nat.lt_or_ge i l.length with hc | hc
  · have g1 : decide ((i : Int) < (l.length : Int)) = true := decide_eq_true (by omega)
    have gel := ints_getD .i64 l i hc
    have hin : inI64 (l.getD i 0) := hi _ (by rw [getD_elem _ _ hc]; exact List.getElem_mem hc)
    have o1 : okL (encP (l.drop i) ++ (encS t ++ rest)) := ⟨by simp only [List.length_append]; omega, byt_app (encP_byt _) bS⟩
    have f1 : numS (encP (l.drop i) ++ (encS t ++ rest)) 0 (l.getD i 0) (l.getD i 0) 2 = (l.getD i 0, encB (decide (l.getD i 0 > 0)) ++ (encP (l.drop (i + 1)) ++ (encS t ++ rest)), 0) := by
      rw [encP_drop l hc]
      simp only [List.append_assoc]
      exact num_enc hin (Int.le_refl _) (Int.le_refl _) _
    have f2 : runS (false : Bool) (encB (decide (l.getD i 0 > 0)) ++ (encP (l.drop (i + 1)) ++ (encS t ++ rest))) 0 (boolS (encB (decide (l.getD i 0 > 0)) ++ (encP (l.drop (i + 1)) ++ (encS t ++ rest)))) = (decide (l.getD i 0 > 0), encP (l.drop (i + 1)) ++ (encS t ++ rest), 0) := by
      rw [bool_enc]; exact hrun _ _ _ rfl
    have o2 : okL (encB (decide (l.getD i 0 > 0)) ++ (encP (l.drop (i + 1)) ++ (encS t ++ rest))) := by
      refine okL_suf (s := enc (l.getD i 0)) o1 ?_
      rw [encP_drop l hc]; simp only [List.append_assoc]
    repeat' (first
      | with_reducible refine t_seq fun K => ?_
      | with_reducible refine t_block ?_
      | with_reducible refine t_scope ?_
      | with_reducible refine t_label ?_
      | with_reducible refine t_skip ?_
      | with_reducible refine t_exit ?_
      | with_reducible refine t_ret ?_
      | with_reducible refine t_k ?_
      | (with_reducible refine t_gF ?_)
      | ((first | with_reducible refine t_kE ?_ | with_reducible refine t_kD ?_ | with_reducible refine t_gS ?_ | with_reducible refine t_kL ?_ | (with_reducible refine t_kLE ?_ ?_; rotate_left) | with_reducible refine t_region fun K => ?_ | with_reducible refine t_drawE (id := 9) (fun _ => true) [(0, true), (1, true), (2, true), (3, true), (4, true), (6, true), (7, true), (8, true), (9, true), (10, true), (5, false), (11, false), (12, true)] (by kernel_rfl) fun K => ?_ | with_reducible refine t_drawE (id := 20) (fun _ => false) [(0, true), (1, true), (2, true), (3, true), (4, true), (5, true), (6, true), (7, true), (9, true), (10, true), (11, true), (12, true), (8, false), (13, true), (14, true), (16, true), (17, true), (18, true), (19, true), (20, true), (15, false), (21, true), (22, true)] (by kernel_rfl) fun K => ?_ | with_reducible refine t_drawE (id := 25) (fun _ => false) [(0, true), (1, true), (2, true), (3, true), (4, true), (6, true), (7, true), (8, true), (9, true), (5, false), (10, true)] (by kernel_rfl) fun K => ?_ | with_reducible refine t_draw (by kernel_rfl) fun K => ?_); simp only [go_sem, Int.cast_ofNat_Int, Nat.reduceEqDiff, reduceIte, Nat.reduceAdd, Nat.reduceMul, Nat.reduceLeDiff, Nat.reduceSub, Nat.reduceLT, Nat.zero_lt_succ, Int.reduceToNat, Int.reduceAdd, Int.reduceSub, Int.reduceMul, Int.reduceNeg, Int.reduceLT, Int.reduceLE, Int.reduceEq, Int.reduceBEq, Int.reduceBNe, Nat.reduceBEq, List.reduceReplicate, g1, Int.toNat_natCast, gel, awakeCon_f, con12_f, fewCon_f, sameICon_f, sameTCon_f, intsR_f, textsR_f, intR_f, boolR_f, textR_f, srcintCon_f, methBCon_f, methWCon_f, methICon_f, methTCon_f, srcintCon_c, methBCon_c, k3, s2, z2, src, f1, f2, o1, o2, bne_self_eq_false])
      | (with_reducible exact kp_nil)
      | (with_reducible exact Kp.refl _)
      | (with_reducible exact kp_to)
      | (with_reducible refine kp_cons ?_)
      | (with_reducible refine kp_arr ?_)
      | (with_reducible refine kp_app ?_)
      | ((with_reducible refine t_cond fun A B => ?_); simp only [go_sem, Int.cast_ofNat_Int, Nat.reduceEqDiff, reduceIte, Nat.reduceAdd, Nat.reduceMul, Nat.reduceLeDiff, Nat.reduceSub, Nat.reduceLT, Nat.zero_lt_succ, Int.reduceToNat, Int.reduceAdd, Int.reduceSub, Int.reduceMul, Int.reduceNeg, Int.reduceLT, Int.reduceLE, Int.reduceEq, Int.reduceBEq, Int.reduceBNe, Nat.reduceBEq, List.reduceReplicate, g1, Int.toNat_natCast, gel, awakeCon_f, con12_f, fewCon_f, sameICon_f, sameTCon_f, intsR_f, textsR_f, intR_f, boolR_f, textR_f, srcintCon_f, methBCon_f, methWCon_f, methICon_f, methTCon_f, srcintCon_c, methBCon_c, k3, s2, z2, src, f1, f2, o1, o2, bne_self_eq_false]; first | (with_reducible refine A.h ?_) | (with_reducible refine B.h ?_) | refine And.intro (fun hc => A.h ?_) (fun hc => B.h ?_))
      | simp only [thenQ_n, thenQ_r, thenQ_e, blockQ_n, blockQ_r, blockQ_e, scopeQ_n, scopeQ_r, scopeQ_e, Nat.reduceEqDiff, reduceIte]
      | (with_reducible refine And.intro ?_ ?_)
      | with_reducible intro vr)
    all_goals try (intros; (try simp only [Bool.and_eq_true, Bool.or_eq_true, Bool.not_eq_true', decide_eq_true_eq, decide_eq_false_iff_not, beq_iff_eq, bne_iff_ne, ne_eq, inI64, List.length_append] at *) <;> omega)
    all_goals try (unfold Kp; intro _ _ _ h; cases h; done)
    refine ⟨⟨i + 1, by omega⟩, by simp only; omega, ?_⟩
    (refine Le.frameS ?gs6 ?_; rotate_left; repeat' (first | exact leF_top _ | (with_reducible refine leF_sl ?_ ?_) | (refine leF_upd (LeR.of_eq ?_) ?_))) <;> (try (simp only [go_sem, Int.cast_ofNat_Int, Nat.reduceEqDiff, reduceIte, Nat.reduceAdd, Nat.reduceMul, Nat.reduceLeDiff, Nat.reduceSub, Nat.reduceLT, Nat.zero_lt_succ, Int.reduceToNat, Int.reduceAdd, Int.reduceSub, Int.reduceMul, Int.reduceNeg, Int.reduceLT, Int.reduceLE, Int.reduceEq, Int.reduceBEq, Int.reduceBNe, Nat.reduceBEq, List.reduceReplicate]; try rfl))
    all_goals try rfl
  have g1 : decide ((i : Int) < (l.length : Int)) = false := decide_eq_false (by omega)
  have : i = l.length := by omega
  subst this
  rw [List.drop_length]
  repeat' (first
    | with_reducible refine t_seq fun K => ?_
    | with_reducible refine t_block ?_
    | with_reducible refine t_scope ?_
    | with_reducible refine t_label ?_
    | with_reducible refine t_skip ?_
    | with_reducible refine t_exit ?_
    | with_reducible refine t_ret ?_
    | with_reducible refine t_k ?_
    | (with_reducible refine t_gF ?_)
    | ((first | with_reducible refine t_kE ?_ | with_reducible refine t_kD ?_ | with_reducible refine t_gS ?_ | with_reducible refine t_kL ?_ | (with_reducible refine t_kLE ?_ ?_; rotate_left) | with_reducible refine t_region fun K => ?_ | with_reducible refine t_drawE (id := 9) (fun _ => true) [(0, true), (1, true), (2, true), (3, true), (4, true), (6, true), (7, true), (8, true), (9, true), (10, true), (5, false), (11, false), (12, true)] (by kernel_rfl) fun K => ?_ | with_reducible refine t_drawE (id := 20) (fun _ => false) [(0, true), (1, true), (2, true), (3, true), (4, true), (5, true), (6, true), (7, true), (9, true), (10, true), (11, true), (12, true), (8, false), (13, true), (14, true), (16, true), (17, true), (18, true), (19, true), (20, true), (15, false), (21, true), (22, true)] (by kernel_rfl) fun K => ?_ | with_reducible refine t_drawE (id := 25) (fun _ => false) [(0, true), (1, true), (2, true), (3, true), (4, true), (6, true), (7, true), (8, true), (9, true), (5, false), (10, true)] (by kernel_rfl) fun K => ?_ | with_reducible refine t_draw (by kernel_rfl) fun K => ?_); simp only [go_sem, Int.cast_ofNat_Int, Nat.reduceEqDiff, reduceIte, Nat.reduceAdd, Nat.reduceMul, Nat.reduceLeDiff, Nat.reduceSub, Nat.reduceLT, Nat.zero_lt_succ, Int.reduceToNat, Int.reduceAdd, Int.reduceSub, Int.reduceMul, Int.reduceNeg, Int.reduceLT, Int.reduceLE, Int.reduceEq, Int.reduceBEq, Int.reduceBNe, Nat.reduceBEq, List.reduceReplicate, g1])
    | (with_reducible exact kp_nil)
    | (with_reducible exact Kp.refl _)
    | (with_reducible exact kp_to)
    | (with_reducible refine kp_cons ?_)
    | (with_reducible refine kp_arr ?_)
    | (with_reducible refine kp_app ?_)
    | ((with_reducible refine t_cond fun A B => ?_); simp only [go_sem, Int.cast_ofNat_Int, Nat.reduceEqDiff, reduceIte, Nat.reduceAdd, Nat.reduceMul, Nat.reduceLeDiff, Nat.reduceSub, Nat.reduceLT, Nat.zero_lt_succ, Int.reduceToNat, Int.reduceAdd, Int.reduceSub, Int.reduceMul, Int.reduceNeg, Int.reduceLT, Int.reduceLE, Int.reduceEq, Int.reduceBEq, Int.reduceBNe, Nat.reduceBEq, List.reduceReplicate, g1]; first | (with_reducible refine A.h ?_) | (with_reducible refine B.h ?_) | refine And.intro (fun hc => A.h ?_) (fun hc => B.h ?_))
    | simp only [thenQ_n, thenQ_r, thenQ_e, blockQ_n, blockQ_r, blockQ_e, scopeQ_n, scopeQ_r, scopeQ_e, Nat.reduceEqDiff, reduceIte]
    | (with_reducible refine And.intro ?_ ?_)
    | with_reducible intro vr)
  refine t_loop (ι := { i : Nat // i ≤ t.length }) (fun i => ⟨upd (upd (upd (upd (upd topF 12 (.lit (.int .i64 i.1))) 10 (.ref (g.length + 1) 0)) 2 (.sl false 1 (ints .u8 rest))) 1 (.sl false 1 (strs t))) 0 (.sl false 1 (ints .i64 l)),
    g ++ [.arr 5 1 (ints .u8 X) (v + 1) true, src (encS (t.drop i.1) ++ rest) 0]⟩) (fun i => t.length - i.1) ⟨0, by omega⟩ ?_ ?_
  · skip
    (refine Le.frameS ?gs7 ?_; rotate_left; repeat' (first | exact leF_top _ | (with_reducible refine leF_sl ?_ ?_) | (refine leF_upd (LeR.of_eq ?_) ?_))) <;> (try (simp only [go_sem, Int.cast_ofNat_Int, Nat.reduceEqDiff, reduceIte, Nat.reduceAdd, Nat.reduceMul, Nat.reduceLeDiff, Nat.reduceSub, Nat.reduceLT, Nat.zero_lt_succ, Int.reduceToNat, Int.reduceAdd, Int.reduceSub, Int.reduceMul, Int.reduceNeg, Int.reduceLT, Int.reduceLE, Int.reduceEq, Int.reduceBEq, Int.reduceBNe, Nat.reduceBEq, List.reduceReplicate]; try rfl))
    all_goals first | rfl | simp [encP]
  clear g1
  rintro ⟨j, hjl'⟩ K2
  rcases Nat.lt_or_ge j t.length with hc | hc
  · have g1 : decide ((j : Int) < (t.length : Int)) = true := decide_eq_true (by omega)
    have gel := strs_getD t j hc
    have hsz := t3 (t.getD j ByteArray.empty) (by rw [getD_elem _ _ hc]; exact List.getElem_mem hc)
    have hSd := encS_len (t.drop j) fun s hs => t3 s (List.mem_of_mem_drop hs)
    have hSe : (t.drop j).length ≤ 20 := by rw [List.length_drop]; omega
    have o1 : okL (encS (t.drop j) ++ rest) := ⟨by simp only [List.length_append]; omega, byt_app (encS_byt _) hr⟩
    have f1 : runS (⟨#[]⟩ : ByteArray) (encS (t.drop j) ++ rest) 0 (wordS (encS (t.drop j) ++ rest) 0 ((t.getD j ByteArray.empty).size : Int)) = (t.getD j ByteArray.empty, encS (t.drop (j + 1)) ++ rest, 0) := by
      rw [encS_drop t hc, List.append_assoc, word_enc (Int.le_refl _) (by omega)]
      exact hrun _ _ _ rfl
    repeat' (first
      | with_reducible refine t_seq fun K => ?_
      | with_reducible refine t_block ?_
      | with_reducible refine t_scope ?_
      | with_reducible refine t_label ?_
      | with_reducible refine t_skip ?_
      | with_reducible refine t_exit ?_
      | with_reducible refine t_ret ?_
      | with_reducible refine t_k ?_
      | (with_reducible refine t_gF ?_)
      | ((first | with_reducible refine t_kE ?_ | with_reducible refine t_kD ?_ | with_reducible refine t_gS ?_ | with_reducible refine t_kL ?_ | (with_reducible refine t_kLE ?_ ?_; rotate_left) | with_reducible refine t_region fun K => ?_ | with_reducible refine t_drawE (id := 9) (fun _ => true) [(0, true), (1, true), (2, true), (3, true), (4, true), (6, true), (7, true), (8, true), (9, true), (10, true), (5, false), (11, false), (12, true)] (by kernel_rfl) fun K => ?_ | with_reducible refine t_drawE (id := 20) (fun _ => false) [(0, true), (1, true), (2, true), (3, true), (4, true), (5, true), (6, true), (7, true), (9, true), (10, true), (11, true), (12, true), (8, false), (13, true), (14, true), (16, true), (17, true), (18, true), (19, true), (20, true), (15, false), (21, true), (22, true)] (by kernel_rfl) fun K => ?_ | with_reducible refine t_drawE (id := 25) (fun _ => false) [(0, true), (1, true), (2, true), (3, true), (4, true), (6, true), (7, true), (8, true), (9, true), (5, false), (10, true)] (by kernel_rfl) fun K => ?_ | with_reducible refine t_draw (by kernel_rfl) fun K => ?_); simp only [go_sem, Int.cast_ofNat_Int, Nat.reduceEqDiff, reduceIte, Nat.reduceAdd, Nat.reduceMul, Nat.reduceLeDiff, Nat.reduceSub, Nat.reduceLT, Nat.zero_lt_succ, Int.reduceToNat, Int.reduceAdd, Int.reduceSub, Int.reduceMul, Int.reduceNeg, Int.reduceLT, Int.reduceLE, Int.reduceEq, Int.reduceBEq, Int.reduceBNe, Nat.reduceBEq, List.reduceReplicate, g1, Int.toNat_natCast, gel, awakeCon_f, con12_f, fewCon_f, sameICon_f, sameTCon_f, intsR_f, textsR_f, intR_f, boolR_f, textR_f, srcintCon_f, methBCon_f, methWCon_f, methICon_f, methTCon_f, methWCon_c, k3, s2, z2, src, f1, o1, eqS_refl])
      | (with_reducible exact kp_nil)
      | (with_reducible exact Kp.refl _)
      | (with_reducible exact kp_to)
      | (with_reducible refine kp_cons ?_)
      | (with_reducible refine kp_arr ?_)
      | (with_reducible refine kp_app ?_)
      | ((with_reducible refine t_cond fun A B => ?_); simp only [go_sem, Int.cast_ofNat_Int, Nat.reduceEqDiff, reduceIte, Nat.reduceAdd, Nat.reduceMul, Nat.reduceLeDiff, Nat.reduceSub, Nat.reduceLT, Nat.zero_lt_succ, Int.reduceToNat, Int.reduceAdd, Int.reduceSub, Int.reduceMul, Int.reduceNeg, Int.reduceLT, Int.reduceLE, Int.reduceEq, Int.reduceBEq, Int.reduceBNe, Nat.reduceBEq, List.reduceReplicate, g1, Int.toNat_natCast, gel, awakeCon_f, con12_f, fewCon_f, sameICon_f, sameTCon_f, intsR_f, textsR_f, intR_f, boolR_f, textR_f, srcintCon_f, methBCon_f, methWCon_f, methICon_f, methTCon_f, methWCon_c, k3, s2, z2, src, f1, o1, eqS_refl]; first | (with_reducible refine A.h ?_) | (with_reducible refine B.h ?_) | refine And.intro (fun hc => A.h ?_) (fun hc => B.h ?_))
      | simp only [thenQ_n, thenQ_r, thenQ_e, blockQ_n, blockQ_r, blockQ_e, scopeQ_n, scopeQ_r, scopeQ_e, Nat.reduceEqDiff, reduceIte]
      | (with_reducible refine And.intro ?_ ?_)
      | with_reducible intro vr)
    all_goals try (intros; (try simp only [Bool.and_eq_true, Bool.or_eq_true, Bool.not_eq_true', decide_eq_true_eq, decide_eq_false_iff_not, beq_iff_eq, bne_iff_ne, ne_eq, inI64, List.length_append] at *) <;> omega)
    all_goals try (unfold Kp; intro _ _ _ h; cases h; done)
    refine ⟨⟨j + 1, by omega⟩, by simp only; omega, ?_⟩
    (refine Le.frameS ?gs8 ?_; rotate_left; repeat' (first | exact leF_top _ | (with_reducible refine leF_sl ?_ ?_) | (refine leF_upd (LeR.of_eq ?_) ?_))) <;> (try (simp only [go_sem, Int.cast_ofNat_Int, Nat.reduceEqDiff, reduceIte, Nat.reduceAdd, Nat.reduceMul, Nat.reduceLeDiff, Nat.reduceSub, Nat.reduceLT, Nat.zero_lt_succ, Int.reduceToNat, Int.reduceAdd, Int.reduceSub, Int.reduceMul, Int.reduceNeg, Int.reduceLT, Int.reduceLE, Int.reduceEq, Int.reduceBEq, Int.reduceBNe, Nat.reduceBEq, List.reduceReplicate]; try rfl))
    all_goals try rfl
  have g1 : decide ((j : Int) < (t.length : Int)) = false := decide_eq_false (by omega)
  have : j = t.length := by omega
  subst this
  rw [List.drop_length]
  have e0 : encS ([] : List ByteArray) ++ rest = rest := rfl
  rw [e0]
  repeat' (first
    | with_reducible refine t_seq fun K => ?_
    | with_reducible refine t_block ?_
    | with_reducible refine t_scope ?_
    | with_reducible refine t_label ?_
    | with_reducible refine t_skip ?_
    | with_reducible refine t_exit ?_
    | with_reducible refine t_ret ?_
    | with_reducible refine t_k ?_
    | (with_reducible refine t_gF ?_)
    | ((first | with_reducible refine t_kE ?_ | with_reducible refine t_kD ?_ | with_reducible refine t_gS ?_ | with_reducible refine t_kL ?_ | (with_reducible refine t_kLE ?_ ?_; rotate_left) | with_reducible refine t_region fun K => ?_ | with_reducible refine t_drawE (id := 9) (fun _ => true) [(0, true), (1, true), (2, true), (3, true), (4, true), (6, true), (7, true), (8, true), (9, true), (10, true), (5, false), (11, false), (12, true)] (by kernel_rfl) fun K => ?_ | with_reducible refine t_drawE (id := 20) (fun _ => false) [(0, true), (1, true), (2, true), (3, true), (4, true), (5, true), (6, true), (7, true), (9, true), (10, true), (11, true), (12, true), (8, false), (13, true), (14, true), (16, true), (17, true), (18, true), (19, true), (20, true), (15, false), (21, true), (22, true)] (by kernel_rfl) fun K => ?_ | with_reducible refine t_drawE (id := 25) (fun _ => false) [(0, true), (1, true), (2, true), (3, true), (4, true), (6, true), (7, true), (8, true), (9, true), (5, false), (10, true)] (by kernel_rfl) fun K => ?_ | with_reducible refine t_draw (by kernel_rfl) fun K => ?_); simp only [go_sem, Int.cast_ofNat_Int, Nat.reduceEqDiff, reduceIte, Nat.reduceAdd, Nat.reduceMul, Nat.reduceLeDiff, Nat.reduceSub, Nat.reduceLT, Nat.zero_lt_succ, Int.reduceToNat, Int.reduceAdd, Int.reduceSub, Int.reduceMul, Int.reduceNeg, Int.reduceLT, Int.reduceLE, Int.reduceEq, Int.reduceBEq, Int.reduceBNe, Nat.reduceBEq, List.reduceReplicate, g1, awakeCon_f, con12_f, fewCon_f, sameICon_f, sameTCon_f, intsR_f, textsR_f, intR_f, boolR_f, textR_f, srcintCon_f, methBCon_f, methWCon_f, methICon_f, methTCon_f, k3, src, con12_c, slK_sl, eqS_refl])
    | (with_reducible exact kp_nil)
    | (with_reducible exact Kp.refl _)
    | (with_reducible exact kp_to)
    | (with_reducible refine kp_cons ?_)
    | (with_reducible refine kp_arr ?_)
    | (with_reducible refine kp_app ?_)
    | ((with_reducible refine t_cond fun A B => ?_); simp only [go_sem, Int.cast_ofNat_Int, Nat.reduceEqDiff, reduceIte, Nat.reduceAdd, Nat.reduceMul, Nat.reduceLeDiff, Nat.reduceSub, Nat.reduceLT, Nat.zero_lt_succ, Int.reduceToNat, Int.reduceAdd, Int.reduceSub, Int.reduceMul, Int.reduceNeg, Int.reduceLT, Int.reduceLE, Int.reduceEq, Int.reduceBEq, Int.reduceBNe, Nat.reduceBEq, List.reduceReplicate, g1, awakeCon_f, con12_f, fewCon_f, sameICon_f, sameTCon_f, intsR_f, textsR_f, intR_f, boolR_f, textR_f, srcintCon_f, methBCon_f, methWCon_f, methICon_f, methTCon_f, k3, src, con12_c, slK_sl, eqS_refl]; first | (with_reducible refine A.h ?_) | (with_reducible refine B.h ?_) | refine And.intro (fun hc => A.h ?_) (fun hc => B.h ?_))
    | simp only [thenQ_n, thenQ_r, thenQ_e, blockQ_n, blockQ_r, blockQ_e, scopeQ_n, scopeQ_r, scopeQ_e, Nat.reduceEqDiff, reduceIte]
    | (with_reducible refine And.intro ?_ ?_)
    | with_reducible intro vr)
  all_goals try (intros; (try simp only [Bool.and_eq_true, Bool.or_eq_true, Bool.not_eq_true', decide_eq_true_eq, decide_eq_false_iff_not, beq_iff_eq, bne_iff_ne, ne_eq, inI64, List.length_append] at *) <;> omega)
  refine end_ret rfl ?_
  simp only [fin, go_sem, Int.cast_ofNat_Int, Nat.reduceEqDiff, reduceIte, Nat.reduceAdd, Nat.reduceMul, Nat.reduceLeDiff, Nat.reduceSub, Nat.reduceLT, Nat.zero_lt_succ, Int.reduceToNat, Int.reduceAdd, Int.reduceSub, Int.reduceMul, Int.reduceNeg, Int.reduceLT, Int.reduceLE, Int.reduceEq, Int.reduceBEq, Int.reduceBNe, Nat.reduceBEq, List.reduceReplicate, eqS_refl]
  exact LeA.refl _
theorem inverse_law : ∀ xs, ShL Try.prog Try.f9.params.toList xs → PC Try.prog 9 xs (.lit (.bool true))
  | [x, y, z], h => by
    obtain ⟨l, rfl, _, hl⟩ := shv_ints u32 u3 sz3 h.1
    obtain ⟨t, rfl, ht, _⟩ := shv_strs u33 u9 sz9 h.2.1
    obtain ⟨b, rfl, _, hb⟩ := shv_ints u22 u5 sz5 h.2.2.1
    exact inverse_pc (fun n hn => wf_i64 (hl n hn)) ht fun n hn => wf_u8 (hb n hn)
  | [], h => h.elim
  | [_], h => h.2.elim
  | [_, _], h => h.2.2.elim
  | _ :: _ :: _ :: _ :: _, h => h.2.2.2.elim
end Go.Proofs.Ytgkjocnfdllieaa

/- WireInverse returns true for any integers, texts and bytes. -/
namespace Go.Proofs.Ytgkjocnfdllieaa.wireInverse
open Go.ChangeShapes Go.WideShapes Go.ChangeAt Go.RowKit Go.Fw

theorem own : ownKnob Try.prog.godebug = none := by kernel_rfl
set_option maxRecDepth 100000 in
theorem lifted (os : Os) (started : os.Started) (H : Type) (enc : TypeId × Value → H) :
    ReturnsInHanded {} Try.checked os 9 .any (Rows.wireInverseSpec.pre6 enc Try.prog Try.f9 Rows.wireInverseRow.domain false) (Rows.wireInverseSpec.post enc Try.prog Try.f9 false true false false) := by
  refine returnsInHanded_of_change (C := Try.checked) own started (by kernel_rfl) Try.func9
    (ChangeSpec.witness6 (enc := enc) (C := Try.checked) false ⟨#[], #[.slice none 0 0, .slice none 0 0, .slice none 0 0], []⟩ 8 (by kernel_rfl) (by kernel_rfl) (by kernel_rfl) (by kernel_rfl)) ?_
  intro W base args ds gs before hval hW hcnd _
  exact law_body (m := 9) inverse_law (by kernel_rfl) (by kernel_rfl) rfl (by kernel_rfl) (fun ds h => by match ds, h with | [_, _, _], _ => rfl) rfl (by kernel_rfl) hval hW

theorem over : Rows.wireInverseRow.holds Try.pinned (OpenSpec.ofChange Rows.wireInverseSpec) :=
  OpenClaim.holds_of_wide 9 Try.f9 rfl rfl rfl rfl rfl rfl rfl ⟨rfl, rfl, rfl, rfl, rfl⟩ rfl rfl rfl rfl rfl (by kernel_rfl) Try.func9 (by kernel_rfl)
    (of_decide_eq_true (by kernel_rfl)) (by unfold Func.isWrapper; first | (rw [if_pos (by decide +kernel)]; kernel_rfl) | (rw [if_neg (by decide +kernel)]; exact ⟨rfl, rfl⟩))
    (fun os started H enc _ => lifted os started H enc)

theorem proved : Rows.WireInverseSaid :=
  over
#print axioms proved
end Go.Proofs.Ytgkjocnfdllieaa.wireInverse
