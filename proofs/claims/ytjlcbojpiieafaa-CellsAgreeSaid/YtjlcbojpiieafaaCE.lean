/- Common frames. -/
import Derived.Test.YtjlcbojpiieafaaCD

set_option linter.all false

namespace Go.Proofs.Ytjlcbojpiieafaa
open Go Go.Fw

theorem le_nil {n0 : Nat} {f : Nat → AV} {σ : List AObj} (i e sz : Nat) (h : f i = .lit (.slice none 0 0)) : Le n0 ⟨f, σ⟩ ⟨upd f i (.arr σ.length 0), σ ++ [.arr e sz [] 0 false]⟩ := by
  intro cx G w N a _ hr hf
  obtain ⟨G', h1, h2, h3⟩ := Rel.newEmpty hr e sz none
  refine ⟨G', h2, hf.size, hf.defers, fun j => ?_⟩
  have hj : R G' (f j) (a.tmps.getD j undef) := (hf.rel j).mono h1
  simp only [upd]
  split
  · rename_i e; subst e; rw [h] at hj; rw [hj.lit_inv]; exact h3
  · exact hj
def bools (l : List Bool) : List AV := l.map fun b => .lit (.bool b)
theorem bools_length (l : List Bool) : (bools l).length = l.length := by simp [bools]
theorem bools_app (l : List Bool) (b : Bool) : bools l ++ [.lit (.bool b)] = bools (l ++ [b]) := by simp [bools]
theorem bools_getD (l : List Bool) (i : Nat) (h : i < l.length) : (bools l).getD i .top = .lit (.bool (l.getD i false)) := by simp [bools, List.getD, h]
/-- The common frame, and which arrays have one, with an error. -/
def frameG : List Arr → List Int → List Int → List Bool → List Int × List Bool × Int
  | a :: l, r :: rs, fr, fd =>
    if (splitS a r).2.2 ≠ 0 then ([], [], (splitS a r).2.2)
    else if (splitS a r).1 = [] then frameG l rs fr (fd ++ [false])
    else if fr = [] then frameG l rs (splitS a r).1 (fd ++ [true])
    else if (splitS a r).1.length ≠ fr.length then ([], [], 13)
    else if (splitS a r).1 ≠ fr then ([], [], 14)
    else frameG l rs fr (fd ++ [true])
  | _, _, fr, fd => (fr, fd, 0)
def frameS (l : List Arr) (rs : List Int) : List Int × List Bool × Int := if l.length ≠ rs.length then ([], [], 1) else frameG l rs [] []
def frV (p : List Int × List Bool × Int) : AV := .tup [.sl false 1 (ints .i64 p.1), .sl false 1 (bools p.2.1), .lit (.int .i64 p.2.2)]
theorem frV_def {p : List Int × List Bool × Int} : frV p = .tup [.sl false 1 (ints .i64 p.1), .sl false 1 (bools p.2.1), .lit (.int .i64 p.2.2)] := rfl
theorem frE_le {e : Int} : LeA (.tup [.lit (.slice none 0 0), .lit (.slice none 0 0), .lit (.int .i64 e)]) (frV ([], [], e)) := LeA.tup ⟨LeA.nil _ _, LeA.nil _ _, LeA.refl _, trivial⟩
theorem splitS_len {a : Arr} (r : Int) (h : okA a) : (splitS a r).1.length ≤ 1000000 ∧ (splitS a r).2.1.length ≤ 1000000 := by
  have := h.1
  unfold splitS
  split
  · simp
  split
  · simp
  · simp only [List.length_take, List.length_drop]; omega
theorem len0 {α : Type} {l : List α} (h : l ≠ []) : l.length ≠ 0 := fun e => h (List.eq_nil_of_length_eq_zero e)
theorem getD_mem {α : Type} {l : List α} {i : Nat} (z : α) (h : i < l.length) : l.getD i z ∈ l := by
  rw [List.getD_eq_getElem?_getD, List.getElem?_eq_getElem h]; exact List.getElem_mem _
structure Lf (l : List Arr) (rs : List Int) (G : List Int × List Bool × Int) where
  i : Nat
  fr : List Int
  fd : List Bool
  ver : Nat
  g : List AObj
  hi : i ≤ l.length
  hfr : fr.length ≤ 1000000
  hfd : fd.length ≤ i
  hF : frameG (l.drop i) (rs.drop i) fr fd = G
noncomputable def E15 : Env := envOf (P := Try.prog) zer (fun _ => false) (fun _ => false) [con20, con59] []
theorem E15_ok : EnvOk Try.prog E15 := envOk zer_ok
set_option maxRecDepth 20000 in
set_option maxHeartbeats 4000000 in
theorem frame_pc {l : List Arr} {rs : List Int} (hm : l.length ≤ 1000000) (hl : ∀ a ∈ l, okA a) (hr : ∀ r ∈ rs, inI64 r) : PC Try.prog 17 [.sl false 3 (arrs l), .sl false 1 (ints .i64 rs)] (frV (frameS l rs)) := by
  unfold frameS
  by_cases hn : l.length = rs.length
  · have n1 : ((l.length : Int) != (rs.length : Int)) = false := by rw [bne_eq_false_iff_eq]; omega
    rw [if_neg (by simpa using hn)]
    generalize hG : frameG l rs [] [] = G
    refine pc_of E15_ok mixed (fun _ => [0, 1, 4, 5, 6, 7, 8, 9, 11, 16, 17, 18, 19, 20, 34, 38, 42, 47, 53]) Try.func17 rfl (by kernel_rfl) (Nat.le_of_ble_eq_true rfl) ?_
    simp only [initF_cons, initF_nil, Nat.reduceAdd]
    refine t_name fun KF => ?_
    unfold E15
    repeat' (first
      | with_reducible refine t_seq fun K => ?_
      | with_reducible refine t_block ?_
      | with_reducible refine t_scope ?_
      | with_reducible refine t_label ?_
      | with_reducible refine t_skip ?_
      | with_reducible refine t_exit ?_
      | with_reducible refine t_ret ?_
      | with_reducible refine t_k ?_
      | (with_reducible refine t_gF ?_)
      | ((first | with_reducible refine t_kE ?_ | with_reducible refine t_kD ?_ | with_reducible refine t_gS ?_ | with_reducible refine t_kL ?_ | (with_reducible refine t_kLE ?_ ?_; rotate_left) | with_reducible refine t_region fun K => ?_ | with_reducible refine t_draw (by kernel_rfl) fun K => ?_); simp only [go_sem, Int.cast_ofNat_Int, Nat.reduceEqDiff, reduceIte, Nat.reduceAdd, Nat.reduceMul, Nat.reduceLeDiff, Nat.reduceSub, Nat.reduceLT, Nat.zero_lt_succ, Int.reduceToNat, Int.reduceAdd, Int.reduceSub, Int.reduceMul, Int.reduceNeg, Int.reduceLT, Int.reduceLE, Int.reduceEq, Int.reduceBEq, Int.reduceBNe, Nat.reduceBEq, List.reduceReplicate, con20_f, con59_f, n1, arrs_length])
      | (with_reducible exact kp_nil)
      | (with_reducible exact Kp.refl _)
      | (with_reducible exact kp_to)
      | (with_reducible refine kp_cons ?_)
      | (with_reducible refine kp_arr ?_)
      | (with_reducible refine kp_app ?_)
      | ((with_reducible refine kp_skip ?_ ?_); rfl)
      | ((with_reducible refine t_cond fun A B => ?_); simp only [go_sem, Int.cast_ofNat_Int, Nat.reduceEqDiff, reduceIte, Nat.reduceAdd, Nat.reduceMul, Nat.reduceLeDiff, Nat.reduceSub, Nat.reduceLT, Nat.zero_lt_succ, Int.reduceToNat, Int.reduceAdd, Int.reduceSub, Int.reduceMul, Int.reduceNeg, Int.reduceLT, Int.reduceLE, Int.reduceEq, Int.reduceBEq, Int.reduceBNe, Nat.reduceBEq, List.reduceReplicate, con20_f, con59_f, n1, arrs_length]; first | (with_reducible refine A.h ?_) | (with_reducible refine B.h ?_) | refine And.intro (fun hc => A.h ?_) (fun hc => B.h ?_))
      | simp only [thenQ_n, thenQ_r, thenQ_e, blockQ_n, blockQ_r, blockQ_e, scopeQ_n, scopeQ_r, scopeQ_e, Nat.reduceEqDiff, reduceIte]
      | (with_reducible refine And.intro ?_ ?_)
      | with_reducible intro vr)
    refine t_loop (ι := Lf l rs G) (fun i => ⟨upd (upd (upd (upd (upd (upd topF 19 (.lit (.int .i64 i.i))) 18 (.lit (.int .i64 l.length))) 17 (.sl false 3 (arrs l))) 5 (.arr 0 i.ver)) 4 (.sl false 1 (ints .i64 i.fr))) 1 (.sl false 1 (ints .i64 rs)), .arr 4 1 (bools i.fd) i.ver false :: i.g⟩) (fun i => l.length - i.i) ⟨0, [], [], 0, [], by omega, by simp, by simp, hG⟩ ?_ ?_
    · refine (le_nil 5 4 1 rfl).trans ?_
      (refine Le.frame ?_; repeat' (first | exact leF_top _ | (with_reducible refine leF_sl ?_ ?_) | (refine leF_upd (LeR.of_eq ?_) ?_))) <;> (try (simp only [go_sem, Int.cast_ofNat_Int, Nat.reduceEqDiff, reduceIte, Nat.reduceAdd, Nat.reduceMul, Nat.reduceLeDiff, Nat.reduceSub, Nat.reduceLT, Nat.zero_lt_succ, Int.reduceToNat, Int.reduceAdd, Int.reduceSub, Int.reduceMul, Int.reduceNeg, Int.reduceLT, Int.reduceLE, Int.reduceEq, Int.reduceBEq, Int.reduceBNe, Nat.reduceBEq, List.reduceReplicate]; try rfl))
    · rintro ⟨i, fr, fd, ver, g, hi, hfr, hfd, hF⟩ K0
      have k1 : ∀ (X : AObj), (g ++ [X])[g.length]? = some X := fun X => getA0 rfl
      have k2 : ∀ (X Y : AObj), (g ++ [X]).set g.length Y = g ++ [Y] := fun X Y => setA0 rfl
      rcases Nat.lt_or_ge i l.length with hc | hc
      · have g1 : decide ((i : Int) < (l.length : Int)) = true := decide_eq_true (by omega)
        have g2 := arrs_getD l i hc
        have g3 := ints_getD .i64 rs i (by omega)
        have ha := hl _ (getD_mem nilA hc)
        have hr' := hr _ (getD_mem 0 (show i < rs.length by omega))
        rw [drop_getD nilA hc, drop_getD 0 (show i < rs.length by omega), frameG] at hF
        generalize l.getD i nilA = a at g2 hF ha
        generalize rs.getD i 0 = r at g3 hF hr'
        have hsl := splitS_len r ha
        generalize hS : splitS a r = s at hF hsl
        obtain ⟨ow, ce, er⟩ := s
        simp only at hF hsl
        obtain ⟨hol, hcl⟩ := hsl
        by_cases e0 : er = 0
        · subst e0
          rw [if_neg (by simp)] at hF
          by_cases o0 : ow = []
          · subst o0
            rw [if_pos rfl] at hF
            have q1 : ((([] : List Int).length : Int) == 0) = true := rfl
            have q2 : decide ((([] : List Int).length : Int) > 0) = false := rfl
            repeat' (first
              | with_reducible refine t_seq fun K => ?_
              | with_reducible refine t_block ?_
              | with_reducible refine t_scope ?_
              | with_reducible refine t_label ?_
              | with_reducible refine t_skip ?_
              | with_reducible refine t_exit ?_
              | with_reducible refine t_ret ?_
              | with_reducible refine t_k ?_
              | (with_reducible refine t_gF ?_)
              | ((first | with_reducible refine t_kE ?_ | with_reducible refine t_kD ?_ | with_reducible refine t_gS ?_ | with_reducible refine t_kL ?_ | (with_reducible refine t_kLE ?_ ?_; rotate_left) | with_reducible refine t_region fun K => ?_ | with_reducible refine t_draw (by kernel_rfl) fun K => ?_); simp only [go_sem, Int.cast_ofNat_Int, Nat.reduceEqDiff, reduceIte, Nat.reduceAdd, Nat.reduceMul, Nat.reduceLeDiff, Nat.reduceSub, Nat.reduceLT, Nat.zero_lt_succ, Int.reduceToNat, Int.reduceAdd, Int.reduceSub, Int.reduceMul, Int.reduceNeg, Int.reduceLT, Int.reduceLE, Int.reduceEq, Int.reduceBEq, Int.reduceBNe, Nat.reduceBEq, List.reduceReplicate, con20_f, con20_c, con59_f, con59_c, hS, spV_def, g1, g2, g3, k1, k2, arrs_length, bools_length, bools_app, arrV_def, arrOf_agg, slK_sl, Int.toNat_natCast, q1, q2])
              | (with_reducible exact kp_nil)
              | (with_reducible exact Kp.refl _)
              | (with_reducible exact kp_to)
              | (with_reducible refine kp_cons ?_)
              | (with_reducible refine kp_arr ?_)
              | (with_reducible refine kp_app ?_)
              | ((with_reducible refine kp_skip ?_ ?_); rfl)
              | ((with_reducible refine t_cond fun A B => ?_); simp only [go_sem, Int.cast_ofNat_Int, Nat.reduceEqDiff, reduceIte, Nat.reduceAdd, Nat.reduceMul, Nat.reduceLeDiff, Nat.reduceSub, Nat.reduceLT, Nat.zero_lt_succ, Int.reduceToNat, Int.reduceAdd, Int.reduceSub, Int.reduceMul, Int.reduceNeg, Int.reduceLT, Int.reduceLE, Int.reduceEq, Int.reduceBEq, Int.reduceBNe, Nat.reduceBEq, List.reduceReplicate, con20_f, con20_c, con59_f, con59_c, hS, spV_def, g1, g2, g3, k1, k2, arrs_length, bools_length, bools_app, arrV_def, arrOf_agg, slK_sl, Int.toNat_natCast, q1, q2]; first | (with_reducible refine A.h ?_) | (with_reducible refine B.h ?_) | refine And.intro (fun hc => A.h ?_) (fun hc => B.h ?_))
              | simp only [thenQ_n, thenQ_r, thenQ_e, blockQ_n, blockQ_r, blockQ_e, scopeQ_n, scopeQ_r, scopeQ_e, Nat.reduceEqDiff, reduceIte]
              | (with_reducible refine And.intro ?_ ?_)
              | with_reducible intro vr)
            all_goals try (intros; (try simp only [Bool.and_eq_true, Bool.or_eq_true, Bool.not_eq_true', decide_eq_true_eq, decide_eq_false_iff_not, beq_iff_eq, bne_iff_ne, ne_eq, inI64, List.length_append] at *) <;> omega)
            all_goals try (first | assumption | (refine ⟨?_, ?_⟩ <;> assumption))
            refine ⟨⟨i + 1, fr, fd ++ [false], ver + 1, g ++ [.box 33 [.lit (.string a.e), .sl false 1 (ints .i64 a.d), .sl false 1 (ints .i64 a.x)]], by omega, hfr, by simp only [List.length_append, List.length_singleton]; omega, hF⟩, by simp only; omega, ?_⟩
            (refine Le.frame ?_; repeat' (first | exact leF_top _ | (with_reducible refine leF_sl ?_ ?_) | (refine leF_upd (LeR.of_eq ?_) ?_))) <;> (try (simp only [go_sem, Int.cast_ofNat_Int, Nat.reduceEqDiff, reduceIte, Nat.reduceAdd, Nat.reduceMul, Nat.reduceLeDiff, Nat.reduceSub, Nat.reduceLT, Nat.zero_lt_succ, Int.reduceToNat, Int.reduceAdd, Int.reduceSub, Int.reduceMul, Int.reduceNeg, Int.reduceLT, Int.reduceLE, Int.reduceEq, Int.reduceBEq, Int.reduceBNe, Nat.reduceBEq, List.reduceReplicate]; try rfl))
          · have o1 := len0 o0
            have q1 : ((ow.length : Int) == 0) = false := by rw [beq_eq_false_iff_ne]; omega
            have q2 : decide ((ow.length : Int) > 0) = true := decide_eq_true (by omega)
            rw [if_neg o0] at hF
            by_cases f0 : fr = []
            · subst f0
              rw [if_pos rfl] at hF
              repeat' (first
                | with_reducible refine t_seq fun K => ?_
                | with_reducible refine t_block ?_
                | with_reducible refine t_scope ?_
                | with_reducible refine t_label ?_
                | with_reducible refine t_skip ?_
                | with_reducible refine t_exit ?_
                | with_reducible refine t_ret ?_
                | with_reducible refine t_k ?_
                | (with_reducible refine t_gF ?_)
                | ((first | with_reducible refine t_kE ?_ | with_reducible refine t_kD ?_ | with_reducible refine t_gS ?_ | with_reducible refine t_kL ?_ | (with_reducible refine t_kLE ?_ ?_; rotate_left) | with_reducible refine t_region fun K => ?_ | with_reducible refine t_draw (by kernel_rfl) fun K => ?_); simp only [go_sem, Int.cast_ofNat_Int, Nat.reduceEqDiff, reduceIte, Nat.reduceAdd, Nat.reduceMul, Nat.reduceLeDiff, Nat.reduceSub, Nat.reduceLT, Nat.zero_lt_succ, Int.reduceToNat, Int.reduceAdd, Int.reduceSub, Int.reduceMul, Int.reduceNeg, Int.reduceLT, Int.reduceLE, Int.reduceEq, Int.reduceBEq, Int.reduceBNe, Nat.reduceBEq, List.reduceReplicate, con20_f, con20_c, con59_f, con59_c, hS, spV_def, g1, g2, g3, k1, k2, arrs_length, bools_length, bools_app, arrV_def, arrOf_agg, slK_sl, Int.toNat_natCast, q1, q2])
                | (with_reducible exact kp_nil)
                | (with_reducible exact Kp.refl _)
                | (with_reducible exact kp_to)
                | (with_reducible refine kp_cons ?_)
                | (with_reducible refine kp_arr ?_)
                | (with_reducible refine kp_app ?_)
                | ((with_reducible refine kp_skip ?_ ?_); rfl)
                | ((with_reducible refine t_cond fun A B => ?_); simp only [go_sem, Int.cast_ofNat_Int, Nat.reduceEqDiff, reduceIte, Nat.reduceAdd, Nat.reduceMul, Nat.reduceLeDiff, Nat.reduceSub, Nat.reduceLT, Nat.zero_lt_succ, Int.reduceToNat, Int.reduceAdd, Int.reduceSub, Int.reduceMul, Int.reduceNeg, Int.reduceLT, Int.reduceLE, Int.reduceEq, Int.reduceBEq, Int.reduceBNe, Nat.reduceBEq, List.reduceReplicate, con20_f, con20_c, con59_f, con59_c, hS, spV_def, g1, g2, g3, k1, k2, arrs_length, bools_length, bools_app, arrV_def, arrOf_agg, slK_sl, Int.toNat_natCast, q1, q2]; first | (with_reducible refine A.h ?_) | (with_reducible refine B.h ?_) | refine And.intro (fun hc => A.h ?_) (fun hc => B.h ?_))
                | simp only [thenQ_n, thenQ_r, thenQ_e, blockQ_n, blockQ_r, blockQ_e, scopeQ_n, scopeQ_r, scopeQ_e, Nat.reduceEqDiff, reduceIte]
                | (with_reducible refine And.intro ?_ ?_)
                | with_reducible intro vr)
              all_goals try (intros; (try simp only [Bool.and_eq_true, Bool.or_eq_true, Bool.not_eq_true', decide_eq_true_eq, decide_eq_false_iff_not, beq_iff_eq, bne_iff_ne, ne_eq, inI64, List.length_append] at *) <;> omega)
              all_goals try (first | assumption | (refine ⟨?_, ?_⟩ <;> assumption))
              refine ⟨⟨i + 1, ow, fd ++ [true], ver + 1, g ++ [.box 33 [.lit (.string a.e), .sl false 1 (ints .i64 a.d), .sl false 1 (ints .i64 a.x)]], by omega, hol, by simp only [List.length_append, List.length_singleton]; omega, hF⟩, by simp only; omega, ?_⟩
              (refine Le.frame ?_; repeat' (first | exact leF_top _ | (with_reducible refine leF_sl ?_ ?_) | (refine leF_upd (LeR.of_eq ?_) ?_))) <;> (try (simp only [go_sem, Int.cast_ofNat_Int, Nat.reduceEqDiff, reduceIte, Nat.reduceAdd, Nat.reduceMul, Nat.reduceLeDiff, Nat.reduceSub, Nat.reduceLT, Nat.zero_lt_succ, Int.reduceToNat, Int.reduceAdd, Int.reduceSub, Int.reduceMul, Int.reduceNeg, Int.reduceLT, Int.reduceLE, Int.reduceEq, Int.reduceBEq, Int.reduceBNe, Nat.reduceBEq, List.reduceReplicate]; try rfl))
            · have f1 := len0 f0
              have q3 : ((fr.length : Int) == 0) = false := by rw [beq_eq_false_iff_ne]; omega
              rw [if_neg f0] at hF
              by_cases l0 : ow.length = fr.length
              · have q4 : ((ow.length : Int) != (fr.length : Int)) = false := by rw [bne_eq_false_iff_eq]; omega
                rw [if_neg (by simpa using l0)] at hF
                by_cases x0 : ow = fr
                · have q5 : decide (ow = fr) = true := decide_eq_true x0
                  rw [if_neg (by simpa using x0)] at hF
                  repeat' (first
                    | with_reducible refine t_seq fun K => ?_
                    | with_reducible refine t_block ?_
                    | with_reducible refine t_scope ?_
                    | with_reducible refine t_label ?_
                    | with_reducible refine t_skip ?_
                    | with_reducible refine t_exit ?_
                    | with_reducible refine t_ret ?_
                    | with_reducible refine t_k ?_
                    | (with_reducible refine t_gF ?_)
                    | ((first | with_reducible refine t_kE ?_ | with_reducible refine t_kD ?_ | with_reducible refine t_gS ?_ | with_reducible refine t_kL ?_ | (with_reducible refine t_kLE ?_ ?_; rotate_left) | with_reducible refine t_region fun K => ?_ | with_reducible refine t_draw (by kernel_rfl) fun K => ?_); simp only [go_sem, Int.cast_ofNat_Int, Nat.reduceEqDiff, reduceIte, Nat.reduceAdd, Nat.reduceMul, Nat.reduceLeDiff, Nat.reduceSub, Nat.reduceLT, Nat.zero_lt_succ, Int.reduceToNat, Int.reduceAdd, Int.reduceSub, Int.reduceMul, Int.reduceNeg, Int.reduceLT, Int.reduceLE, Int.reduceEq, Int.reduceBEq, Int.reduceBNe, Nat.reduceBEq, List.reduceReplicate, con20_f, con20_c, con59_f, con59_c, hS, spV_def, g1, g2, g3, k1, k2, arrs_length, bools_length, bools_app, arrV_def, arrOf_agg, slK_sl, Int.toNat_natCast, q1, q2, q3, q4, q5, Bool.not_true])
                    | (with_reducible exact kp_nil)
                    | (with_reducible exact Kp.refl _)
                    | (with_reducible exact kp_to)
                    | (with_reducible refine kp_cons ?_)
                    | (with_reducible refine kp_arr ?_)
                    | (with_reducible refine kp_app ?_)
                    | ((with_reducible refine kp_skip ?_ ?_); rfl)
                    | ((with_reducible refine t_cond fun A B => ?_); simp only [go_sem, Int.cast_ofNat_Int, Nat.reduceEqDiff, reduceIte, Nat.reduceAdd, Nat.reduceMul, Nat.reduceLeDiff, Nat.reduceSub, Nat.reduceLT, Nat.zero_lt_succ, Int.reduceToNat, Int.reduceAdd, Int.reduceSub, Int.reduceMul, Int.reduceNeg, Int.reduceLT, Int.reduceLE, Int.reduceEq, Int.reduceBEq, Int.reduceBNe, Nat.reduceBEq, List.reduceReplicate, con20_f, con20_c, con59_f, con59_c, hS, spV_def, g1, g2, g3, k1, k2, arrs_length, bools_length, bools_app, arrV_def, arrOf_agg, slK_sl, Int.toNat_natCast, q1, q2, q3, q4, q5, Bool.not_true]; first | (with_reducible refine A.h ?_) | (with_reducible refine B.h ?_) | refine And.intro (fun hc => A.h ?_) (fun hc => B.h ?_))
                    | simp only [thenQ_n, thenQ_r, thenQ_e, blockQ_n, blockQ_r, blockQ_e, scopeQ_n, scopeQ_r, scopeQ_e, Nat.reduceEqDiff, reduceIte]
                    | (with_reducible refine And.intro ?_ ?_)
                    | with_reducible intro vr)
                  all_goals try (intros; (try simp only [Bool.and_eq_true, Bool.or_eq_true, Bool.not_eq_true', decide_eq_true_eq, decide_eq_false_iff_not, beq_iff_eq, bne_iff_ne, ne_eq, inI64, List.length_append] at *) <;> omega)
                  all_goals try (first | assumption | (refine ⟨?_, ?_⟩ <;> assumption))
                  refine ⟨⟨i + 1, fr, fd ++ [true], ver + 1, g ++ [.box 33 [.lit (.string a.e), .sl false 1 (ints .i64 a.d), .sl false 1 (ints .i64 a.x)]], by omega, hfr, by simp only [List.length_append, List.length_singleton]; omega, hF⟩, by simp only; omega, ?_⟩
                  (refine Le.frame ?_; repeat' (first | exact leF_top _ | (with_reducible refine leF_sl ?_ ?_) | (refine leF_upd (LeR.of_eq ?_) ?_))) <;> (try (simp only [go_sem, Int.cast_ofNat_Int, Nat.reduceEqDiff, reduceIte, Nat.reduceAdd, Nat.reduceMul, Nat.reduceLeDiff, Nat.reduceSub, Nat.reduceLT, Nat.zero_lt_succ, Int.reduceToNat, Int.reduceAdd, Int.reduceSub, Int.reduceMul, Int.reduceNeg, Int.reduceLT, Int.reduceLE, Int.reduceEq, Int.reduceBEq, Int.reduceBNe, Nat.reduceBEq, List.reduceReplicate]; try rfl))
                · have q5 : decide (ow = fr) = false := decide_eq_false x0
                  rw [if_pos x0] at hF
                  subst hF
                  repeat' (first
                    | with_reducible refine t_seq fun K => ?_
                    | with_reducible refine t_block ?_
                    | with_reducible refine t_scope ?_
                    | with_reducible refine t_label ?_
                    | with_reducible refine t_skip ?_
                    | with_reducible refine t_exit ?_
                    | with_reducible refine t_ret ?_
                    | with_reducible refine t_k ?_
                    | (with_reducible refine t_gF ?_)
                    | ((first | with_reducible refine t_kE ?_ | with_reducible refine t_kD ?_ | with_reducible refine t_gS ?_ | with_reducible refine t_kL ?_ | (with_reducible refine t_kLE ?_ ?_; rotate_left) | with_reducible refine t_region fun K => ?_ | with_reducible refine t_draw (by kernel_rfl) fun K => ?_); simp only [go_sem, Int.cast_ofNat_Int, Nat.reduceEqDiff, reduceIte, Nat.reduceAdd, Nat.reduceMul, Nat.reduceLeDiff, Nat.reduceSub, Nat.reduceLT, Nat.zero_lt_succ, Int.reduceToNat, Int.reduceAdd, Int.reduceSub, Int.reduceMul, Int.reduceNeg, Int.reduceLT, Int.reduceLE, Int.reduceEq, Int.reduceBEq, Int.reduceBNe, Nat.reduceBEq, List.reduceReplicate, con20_f, con20_c, con59_f, con59_c, hS, spV_def, g1, g2, g3, k1, k2, arrs_length, bools_length, bools_app, arrV_def, arrOf_agg, slK_sl, Int.toNat_natCast, q1, q2, q3, q4, q5, Bool.not_false])
                    | (with_reducible exact kp_nil)
                    | (with_reducible exact Kp.refl _)
                    | (with_reducible exact kp_to)
                    | (with_reducible refine kp_cons ?_)
                    | (with_reducible refine kp_arr ?_)
                    | (with_reducible refine kp_app ?_)
                    | ((with_reducible refine kp_skip ?_ ?_); rfl)
                    | ((with_reducible refine t_cond fun A B => ?_); simp only [go_sem, Int.cast_ofNat_Int, Nat.reduceEqDiff, reduceIte, Nat.reduceAdd, Nat.reduceMul, Nat.reduceLeDiff, Nat.reduceSub, Nat.reduceLT, Nat.zero_lt_succ, Int.reduceToNat, Int.reduceAdd, Int.reduceSub, Int.reduceMul, Int.reduceNeg, Int.reduceLT, Int.reduceLE, Int.reduceEq, Int.reduceBEq, Int.reduceBNe, Nat.reduceBEq, List.reduceReplicate, con20_f, con20_c, con59_f, con59_c, hS, spV_def, g1, g2, g3, k1, k2, arrs_length, bools_length, bools_app, arrV_def, arrOf_agg, slK_sl, Int.toNat_natCast, q1, q2, q3, q4, q5, Bool.not_false]; first | (with_reducible refine A.h ?_) | (with_reducible refine B.h ?_) | refine And.intro (fun hc => A.h ?_) (fun hc => B.h ?_))
                    | simp only [thenQ_n, thenQ_r, thenQ_e, blockQ_n, blockQ_r, blockQ_e, scopeQ_n, scopeQ_r, scopeQ_e, Nat.reduceEqDiff, reduceIte]
                    | (with_reducible refine And.intro ?_ ?_)
                    | with_reducible intro vr)
                  all_goals try (intros; (try simp only [Bool.and_eq_true, Bool.or_eq_true, Bool.not_eq_true', decide_eq_true_eq, decide_eq_false_iff_not, beq_iff_eq, bne_iff_ne, ne_eq, inI64, List.length_append] at *) <;> omega)
                  all_goals try (first | assumption | (refine ⟨?_, ?_⟩ <;> assumption))
                  refine end_ret rfl ?_
                  simp only [fin, go_sem, Int.cast_ofNat_Int, Nat.reduceEqDiff, reduceIte, Nat.reduceAdd, Nat.reduceMul, Nat.reduceLeDiff, Nat.reduceSub, Nat.reduceLT, Nat.zero_lt_succ, Int.reduceToNat, Int.reduceAdd, Int.reduceSub, Int.reduceMul, Int.reduceNeg, Int.reduceLT, Int.reduceLE, Int.reduceEq, Int.reduceBEq, Int.reduceBNe, Nat.reduceBEq, List.reduceReplicate]
                  exact frE_le
              · have q4 : ((ow.length : Int) != (fr.length : Int)) = true := by rw [bne_iff_ne]; omega
                rw [if_pos l0] at hF
                subst hF
                repeat' (first
                  | with_reducible refine t_seq fun K => ?_
                  | with_reducible refine t_block ?_
                  | with_reducible refine t_scope ?_
                  | with_reducible refine t_label ?_
                  | with_reducible refine t_skip ?_
                  | with_reducible refine t_exit ?_
                  | with_reducible refine t_ret ?_
                  | with_reducible refine t_k ?_
                  | (with_reducible refine t_gF ?_)
                  | ((first | with_reducible refine t_kE ?_ | with_reducible refine t_kD ?_ | with_reducible refine t_gS ?_ | with_reducible refine t_kL ?_ | (with_reducible refine t_kLE ?_ ?_; rotate_left) | with_reducible refine t_region fun K => ?_ | with_reducible refine t_draw (by kernel_rfl) fun K => ?_); simp only [go_sem, Int.cast_ofNat_Int, Nat.reduceEqDiff, reduceIte, Nat.reduceAdd, Nat.reduceMul, Nat.reduceLeDiff, Nat.reduceSub, Nat.reduceLT, Nat.zero_lt_succ, Int.reduceToNat, Int.reduceAdd, Int.reduceSub, Int.reduceMul, Int.reduceNeg, Int.reduceLT, Int.reduceLE, Int.reduceEq, Int.reduceBEq, Int.reduceBNe, Nat.reduceBEq, List.reduceReplicate, con20_f, con20_c, con59_f, con59_c, hS, spV_def, g1, g2, g3, k1, k2, arrs_length, bools_length, bools_app, arrV_def, arrOf_agg, slK_sl, Int.toNat_natCast, q1, q2, q3, q4])
                  | (with_reducible exact kp_nil)
                  | (with_reducible exact Kp.refl _)
                  | (with_reducible exact kp_to)
                  | (with_reducible refine kp_cons ?_)
                  | (with_reducible refine kp_arr ?_)
                  | (with_reducible refine kp_app ?_)
                  | ((with_reducible refine kp_skip ?_ ?_); rfl)
                  | ((with_reducible refine t_cond fun A B => ?_); simp only [go_sem, Int.cast_ofNat_Int, Nat.reduceEqDiff, reduceIte, Nat.reduceAdd, Nat.reduceMul, Nat.reduceLeDiff, Nat.reduceSub, Nat.reduceLT, Nat.zero_lt_succ, Int.reduceToNat, Int.reduceAdd, Int.reduceSub, Int.reduceMul, Int.reduceNeg, Int.reduceLT, Int.reduceLE, Int.reduceEq, Int.reduceBEq, Int.reduceBNe, Nat.reduceBEq, List.reduceReplicate, con20_f, con20_c, con59_f, con59_c, hS, spV_def, g1, g2, g3, k1, k2, arrs_length, bools_length, bools_app, arrV_def, arrOf_agg, slK_sl, Int.toNat_natCast, q1, q2, q3, q4]; first | (with_reducible refine A.h ?_) | (with_reducible refine B.h ?_) | refine And.intro (fun hc => A.h ?_) (fun hc => B.h ?_))
                  | simp only [thenQ_n, thenQ_r, thenQ_e, blockQ_n, blockQ_r, blockQ_e, scopeQ_n, scopeQ_r, scopeQ_e, Nat.reduceEqDiff, reduceIte]
                  | (with_reducible refine And.intro ?_ ?_)
                  | with_reducible intro vr)
                all_goals try (intros; (try simp only [Bool.and_eq_true, Bool.or_eq_true, Bool.not_eq_true', decide_eq_true_eq, decide_eq_false_iff_not, beq_iff_eq, bne_iff_ne, ne_eq, inI64, List.length_append] at *) <;> omega)
                all_goals try (first | assumption | (refine ⟨?_, ?_⟩ <;> assumption))
                refine end_ret rfl ?_
                simp only [fin, go_sem, Int.cast_ofNat_Int, Nat.reduceEqDiff, reduceIte, Nat.reduceAdd, Nat.reduceMul, Nat.reduceLeDiff, Nat.reduceSub, Nat.reduceLT, Nat.zero_lt_succ, Int.reduceToNat, Int.reduceAdd, Int.reduceSub, Int.reduceMul, Int.reduceNeg, Int.reduceLT, Int.reduceLE, Int.reduceEq, Int.reduceBEq, Int.reduceBNe, Nat.reduceBEq, List.reduceReplicate]
                exact frE_le
        · have e1 : (er != 0) = true := by rw [bne_iff_ne]; exact e0
          rw [if_pos e0] at hF
          subst hF
          repeat' (first
            | with_reducible refine t_seq fun K => ?_
            | with_reducible refine t_block ?_
            | with_reducible refine t_scope ?_
            | with_reducible refine t_label ?_
            | with_reducible refine t_skip ?_
            | with_reducible refine t_exit ?_
            | with_reducible refine t_ret ?_
            | with_reducible refine t_k ?_
            | (with_reducible refine t_gF ?_)
            | ((first | with_reducible refine t_kE ?_ | with_reducible refine t_kD ?_ | with_reducible refine t_gS ?_ | with_reducible refine t_kL ?_ | (with_reducible refine t_kLE ?_ ?_; rotate_left) | with_reducible refine t_region fun K => ?_ | with_reducible refine t_draw (by kernel_rfl) fun K => ?_); simp only [go_sem, Int.cast_ofNat_Int, Nat.reduceEqDiff, reduceIte, Nat.reduceAdd, Nat.reduceMul, Nat.reduceLeDiff, Nat.reduceSub, Nat.reduceLT, Nat.zero_lt_succ, Int.reduceToNat, Int.reduceAdd, Int.reduceSub, Int.reduceMul, Int.reduceNeg, Int.reduceLT, Int.reduceLE, Int.reduceEq, Int.reduceBEq, Int.reduceBNe, Nat.reduceBEq, List.reduceReplicate, con20_f, con20_c, con59_f, con59_c, hS, spV_def, g1, g2, g3, k1, k2, arrs_length, bools_length, bools_app, arrV_def, arrOf_agg, slK_sl, Int.toNat_natCast, e1])
            | (with_reducible exact kp_nil)
            | (with_reducible exact Kp.refl _)
            | (with_reducible exact kp_to)
            | (with_reducible refine kp_cons ?_)
            | (with_reducible refine kp_arr ?_)
            | (with_reducible refine kp_app ?_)
            | ((with_reducible refine kp_skip ?_ ?_); rfl)
            | ((with_reducible refine t_cond fun A B => ?_); simp only [go_sem, Int.cast_ofNat_Int, Nat.reduceEqDiff, reduceIte, Nat.reduceAdd, Nat.reduceMul, Nat.reduceLeDiff, Nat.reduceSub, Nat.reduceLT, Nat.zero_lt_succ, Int.reduceToNat, Int.reduceAdd, Int.reduceSub, Int.reduceMul, Int.reduceNeg, Int.reduceLT, Int.reduceLE, Int.reduceEq, Int.reduceBEq, Int.reduceBNe, Nat.reduceBEq, List.reduceReplicate, con20_f, con20_c, con59_f, con59_c, hS, spV_def, g1, g2, g3, k1, k2, arrs_length, bools_length, bools_app, arrV_def, arrOf_agg, slK_sl, Int.toNat_natCast, e1]; first | (with_reducible refine A.h ?_) | (with_reducible refine B.h ?_) | refine And.intro (fun hc => A.h ?_) (fun hc => B.h ?_))
            | simp only [thenQ_n, thenQ_r, thenQ_e, blockQ_n, blockQ_r, blockQ_e, scopeQ_n, scopeQ_r, scopeQ_e, Nat.reduceEqDiff, reduceIte]
            | (with_reducible refine And.intro ?_ ?_)
            | with_reducible intro vr)
          all_goals try (intros; (try simp only [Bool.and_eq_true, Bool.or_eq_true, Bool.not_eq_true', decide_eq_true_eq, decide_eq_false_iff_not, beq_iff_eq, bne_iff_ne, ne_eq, inI64, List.length_append] at *) <;> omega)
          all_goals try (first | assumption | (refine ⟨?_, ?_⟩ <;> assumption))
          refine end_ret rfl ?_
          simp only [fin, go_sem, Int.cast_ofNat_Int, Nat.reduceEqDiff, reduceIte, Nat.reduceAdd, Nat.reduceMul, Nat.reduceLeDiff, Nat.reduceSub, Nat.reduceLT, Nat.zero_lt_succ, Int.reduceToNat, Int.reduceAdd, Int.reduceSub, Int.reduceMul, Int.reduceNeg, Int.reduceLT, Int.reduceLE, Int.reduceEq, Int.reduceBEq, Int.reduceBNe, Nat.reduceBEq, List.reduceReplicate]
          exact frE_le
      · have g1 : decide ((i : Int) < (l.length : Int)) = false := decide_eq_false (by omega)
        rw [List.drop_eq_nil_of_le hc, frameG] at hF
        · subst hF
          repeat' (first
            | with_reducible refine t_seq fun K => ?_
            | with_reducible refine t_block ?_
            | with_reducible refine t_scope ?_
            | with_reducible refine t_label ?_
            | with_reducible refine t_skip ?_
            | with_reducible refine t_exit ?_
            | with_reducible refine t_ret ?_
            | with_reducible refine t_k ?_
            | (with_reducible refine t_gF ?_)
            | ((first | with_reducible refine t_kE ?_ | with_reducible refine t_kD ?_ | with_reducible refine t_gS ?_ | with_reducible refine t_kL ?_ | (with_reducible refine t_kLE ?_ ?_; rotate_left) | with_reducible refine t_region fun K => ?_ | with_reducible refine t_draw (by kernel_rfl) fun K => ?_); simp only [go_sem, Int.cast_ofNat_Int, Nat.reduceEqDiff, reduceIte, Nat.reduceAdd, Nat.reduceMul, Nat.reduceLeDiff, Nat.reduceSub, Nat.reduceLT, Nat.zero_lt_succ, Int.reduceToNat, Int.reduceAdd, Int.reduceSub, Int.reduceMul, Int.reduceNeg, Int.reduceLT, Int.reduceLE, Int.reduceEq, Int.reduceBEq, Int.reduceBNe, Nat.reduceBEq, List.reduceReplicate, con20_f, con59_f, g1, arrs_length])
            | (with_reducible exact kp_nil)
            | (with_reducible exact Kp.refl _)
            | (with_reducible exact kp_to)
            | (with_reducible refine kp_cons ?_)
            | (with_reducible refine kp_arr ?_)
            | (with_reducible refine kp_app ?_)
            | ((with_reducible refine kp_skip ?_ ?_); rfl)
            | ((with_reducible refine t_cond fun A B => ?_); simp only [go_sem, Int.cast_ofNat_Int, Nat.reduceEqDiff, reduceIte, Nat.reduceAdd, Nat.reduceMul, Nat.reduceLeDiff, Nat.reduceSub, Nat.reduceLT, Nat.zero_lt_succ, Int.reduceToNat, Int.reduceAdd, Int.reduceSub, Int.reduceMul, Int.reduceNeg, Int.reduceLT, Int.reduceLE, Int.reduceEq, Int.reduceBEq, Int.reduceBNe, Nat.reduceBEq, List.reduceReplicate, con20_f, con59_f, g1, arrs_length]; first | (with_reducible refine A.h ?_) | (with_reducible refine B.h ?_) | refine And.intro (fun hc => A.h ?_) (fun hc => B.h ?_))
            | simp only [thenQ_n, thenQ_r, thenQ_e, blockQ_n, blockQ_r, blockQ_e, scopeQ_n, scopeQ_r, scopeQ_e, Nat.reduceEqDiff, reduceIte]
            | (with_reducible refine And.intro ?_ ?_)
            | with_reducible intro vr)
          all_goals try (intros; (try simp only [Bool.and_eq_true, Bool.or_eq_true, Bool.not_eq_true', decide_eq_true_eq, decide_eq_false_iff_not, beq_iff_eq, bne_iff_ne, ne_eq, inI64, List.length_append] at *) <;> omega)
          refine end_ret rfl ?_
          simp only [fin, go_sem, Int.cast_ofNat_Int, Nat.reduceEqDiff, reduceIte, Nat.reduceAdd, Nat.reduceMul, Nat.reduceLeDiff, Nat.reduceSub, Nat.reduceLT, Nat.zero_lt_succ, Int.reduceToNat, Int.reduceAdd, Int.reduceSub, Int.reduceMul, Int.reduceNeg, Int.reduceLT, Int.reduceLE, Int.reduceEq, Int.reduceBEq, Int.reduceBNe, Nat.reduceBEq, List.reduceReplicate]
          exact LeA.refl _
        · intro _ _ _ _ h; cases h
  · have n1 : ((l.length : Int) != (rs.length : Int)) = true := by rw [bne_iff_ne]; omega
    rw [if_pos hn]
    refine pc_of E15_ok mixed (fun _ => [0, 1, 4, 5, 6, 7, 8, 9, 11, 16, 17, 18, 19, 20, 34, 38, 42, 47, 53]) Try.func17 rfl (by kernel_rfl) (Nat.le_of_ble_eq_true rfl) ?_
    simp only [initF_cons, initF_nil, Nat.reduceAdd]
    refine t_name fun KF => ?_
    unfold E15
    repeat' (first
      | with_reducible refine t_seq fun K => ?_
      | with_reducible refine t_block ?_
      | with_reducible refine t_scope ?_
      | with_reducible refine t_label ?_
      | with_reducible refine t_skip ?_
      | with_reducible refine t_exit ?_
      | with_reducible refine t_ret ?_
      | with_reducible refine t_k ?_
      | (with_reducible refine t_gF ?_)
      | ((first | with_reducible refine t_kE ?_ | with_reducible refine t_kD ?_ | with_reducible refine t_gS ?_ | with_reducible refine t_kL ?_ | (with_reducible refine t_kLE ?_ ?_; rotate_left) | with_reducible refine t_region fun K => ?_ | with_reducible refine t_draw (by kernel_rfl) fun K => ?_); simp only [go_sem, Int.cast_ofNat_Int, Nat.reduceEqDiff, reduceIte, Nat.reduceAdd, Nat.reduceMul, Nat.reduceLeDiff, Nat.reduceSub, Nat.reduceLT, Nat.zero_lt_succ, Int.reduceToNat, Int.reduceAdd, Int.reduceSub, Int.reduceMul, Int.reduceNeg, Int.reduceLT, Int.reduceLE, Int.reduceEq, Int.reduceBEq, Int.reduceBNe, Nat.reduceBEq, List.reduceReplicate, con20_f, con59_f, n1, arrs_length])
      | (with_reducible exact kp_nil)
      | (with_reducible exact Kp.refl _)
      | (with_reducible exact kp_to)
      | (with_reducible refine kp_cons ?_)
      | (with_reducible refine kp_arr ?_)
      | (with_reducible refine kp_app ?_)
      | ((with_reducible refine kp_skip ?_ ?_); rfl)
      | ((with_reducible refine t_cond fun A B => ?_); simp only [go_sem, Int.cast_ofNat_Int, Nat.reduceEqDiff, reduceIte, Nat.reduceAdd, Nat.reduceMul, Nat.reduceLeDiff, Nat.reduceSub, Nat.reduceLT, Nat.zero_lt_succ, Int.reduceToNat, Int.reduceAdd, Int.reduceSub, Int.reduceMul, Int.reduceNeg, Int.reduceLT, Int.reduceLE, Int.reduceEq, Int.reduceBEq, Int.reduceBNe, Nat.reduceBEq, List.reduceReplicate, con20_f, con59_f, n1, arrs_length]; first | (with_reducible refine A.h ?_) | (with_reducible refine B.h ?_) | refine And.intro (fun hc => A.h ?_) (fun hc => B.h ?_))
      | simp only [thenQ_n, thenQ_r, thenQ_e, blockQ_n, blockQ_r, blockQ_e, scopeQ_n, scopeQ_r, scopeQ_e, Nat.reduceEqDiff, reduceIte]
      | (with_reducible refine And.intro ?_ ?_)
      | with_reducible intro vr)
    refine end_ret rfl ?_
    simp only [fin, go_sem, Int.cast_ofNat_Int, Nat.reduceEqDiff, reduceIte, Nat.reduceAdd, Nat.reduceMul, Nat.reduceLeDiff, Nat.reduceSub, Nat.reduceLT, Nat.zero_lt_succ, Int.reduceToNat, Int.reduceAdd, Int.reduceSub, Int.reduceMul, Int.reduceNeg, Int.reduceLT, Int.reduceLE, Int.reduceEq, Int.reduceBEq, Int.reduceBNe, Nat.reduceBEq, List.reduceReplicate]
    exact frE_le
noncomputable def con17 : PCon Try.prog where
  f := 17
  c := fun
    | [xl, xrs] => match arrsOf xl, slK .i64 xrs with | some l, some rs => some (l.length ≤ 1000000 ∧ (∀ a ∈ l, okA a) ∧ (∀ r ∈ rs, inI64 r), frV (frameS l rs)) | _, _ => none
    | _ => none
  ok := by
    intro args p r hc hp
    split at hc
    · split at hc
      · rename_i hl hrs
        cases hc
        exact PC.weak ((fun hp : _ ∧ _ ∧ _ => frame_pc hp.1 hp.2.1 hp.2.2) hp) ⟨arrsOf_le hl, slK_le hrs, trivial⟩
      · cases hc
    · cases hc
  fk := fk17
theorem con17_f : con17.f = 17 := rfl
theorem con17_c {xl : AV} {xrs : AV} : con17.c [xl, xrs] = match arrsOf xl, slK .i64 xrs with | some l, some rs => some (l.length ≤ 1000000 ∧ (∀ a ∈ l, okA a) ∧ (∀ r ∈ rs, inI64 r), frV (frameS l rs)) | _, _ => none := rfl
noncomputable def E16 : Env := envOf (P := Try.prog) zer (fun _ => false) (fun _ => false) [con21, con19] []
theorem E16_ok : EnvOk Try.prog E16 := envOk zer_ok
set_option maxRecDepth 20000 in
set_option maxHeartbeats 4000000 in
theorem rframe_pc {l : List Arr} {rs : List Int} (hm : l.length ≤ 1000000) (hl : ∀ a ∈ l, okA a) (hr : ∀ r ∈ rs, inI64 r) : PC Try.prog 18 [.sl false 3 (arrs l), .sl false 1 (ints .i64 rs)] (frV (frameS l rs)) := by
  unfold frameS
  by_cases hn : l.length = rs.length
  · have n1 : ((l.length : Int) != (rs.length : Int)) = false := by rw [bne_eq_false_iff_eq]; omega
    rw [if_neg (by simpa using hn)]
    generalize hG : frameG l rs [] [] = G
    refine pc_of E16_ok mixed (fun _ => [0, 1, 4, 5, 6, 7, 8, 10, 15, 19, 36, 44, 48, 53, 59]) Try.func18 rfl (by kernel_rfl) (Nat.le_of_ble_eq_true rfl) ?_
    simp only [initF_cons, initF_nil, Nat.reduceAdd]
    refine t_name fun KF => ?_
    unfold E16
    repeat' (first
      | with_reducible refine t_seq fun K => ?_
      | with_reducible refine t_block ?_
      | with_reducible refine t_scope ?_
      | with_reducible refine t_label ?_
      | with_reducible refine t_skip ?_
      | with_reducible refine t_exit ?_
      | with_reducible refine t_ret ?_
      | with_reducible refine t_k ?_
      | (with_reducible refine t_gF ?_)
      | ((first | with_reducible refine t_kE ?_ | with_reducible refine t_kD ?_ | with_reducible refine t_gS ?_ | with_reducible refine t_kL ?_ | (with_reducible refine t_kLE ?_ ?_; rotate_left) | with_reducible refine t_region fun K => ?_ | with_reducible refine t_draw (by kernel_rfl) fun K => ?_); simp only [go_sem, Int.cast_ofNat_Int, Nat.reduceEqDiff, reduceIte, Nat.reduceAdd, Nat.reduceMul, Nat.reduceLeDiff, Nat.reduceSub, Nat.reduceLT, Nat.zero_lt_succ, Int.reduceToNat, Int.reduceAdd, Int.reduceSub, Int.reduceMul, Int.reduceNeg, Int.reduceLT, Int.reduceLE, Int.reduceEq, Int.reduceBEq, Int.reduceBNe, Nat.reduceBEq, List.reduceReplicate, con21_f, con19_f, n1, arrs_length])
      | (with_reducible exact kp_nil)
      | (with_reducible exact Kp.refl _)
      | (with_reducible exact kp_to)
      | (with_reducible refine kp_cons ?_)
      | (with_reducible refine kp_arr ?_)
      | (with_reducible refine kp_app ?_)
      | ((with_reducible refine kp_skip ?_ ?_); rfl)
      | ((with_reducible refine t_cond fun A B => ?_); simp only [go_sem, Int.cast_ofNat_Int, Nat.reduceEqDiff, reduceIte, Nat.reduceAdd, Nat.reduceMul, Nat.reduceLeDiff, Nat.reduceSub, Nat.reduceLT, Nat.zero_lt_succ, Int.reduceToNat, Int.reduceAdd, Int.reduceSub, Int.reduceMul, Int.reduceNeg, Int.reduceLT, Int.reduceLE, Int.reduceEq, Int.reduceBEq, Int.reduceBNe, Nat.reduceBEq, List.reduceReplicate, con21_f, con19_f, n1, arrs_length]; first | (with_reducible refine A.h ?_) | (with_reducible refine B.h ?_) | refine And.intro (fun hc => A.h ?_) (fun hc => B.h ?_))
      | simp only [thenQ_n, thenQ_r, thenQ_e, blockQ_n, blockQ_r, blockQ_e, scopeQ_n, scopeQ_r, scopeQ_e, Nat.reduceEqDiff, reduceIte]
      | (with_reducible refine And.intro ?_ ?_)
      | with_reducible intro vr)
    refine t_loop (ι := Lf l rs G) (fun i => ⟨upd (upd (upd (upd (upd topF 7 (.lit (.int .i64 i.i))) 5 (.arr 0 i.ver)) 4 (.sl false 1 (ints .i64 i.fr))) 1 (.sl false 1 (ints .i64 rs))) 0 (.sl false 3 (arrs l)), .arr 4 1 (bools i.fd) i.ver false :: i.g⟩) (fun i => l.length - i.i) ⟨0, [], [], 0, [], by omega, by simp, by simp, hG⟩ ?_ ?_
    · refine (le_nil 5 4 1 rfl).trans ?_
      (refine Le.frame ?_; repeat' (first | exact leF_top _ | (with_reducible refine leF_sl ?_ ?_) | (refine leF_upd (LeR.of_eq ?_) ?_))) <;> (try (simp only [go_sem, Int.cast_ofNat_Int, Nat.reduceEqDiff, reduceIte, Nat.reduceAdd, Nat.reduceMul, Nat.reduceLeDiff, Nat.reduceSub, Nat.reduceLT, Nat.zero_lt_succ, Int.reduceToNat, Int.reduceAdd, Int.reduceSub, Int.reduceMul, Int.reduceNeg, Int.reduceLT, Int.reduceLE, Int.reduceEq, Int.reduceBEq, Int.reduceBNe, Nat.reduceBEq, List.reduceReplicate]; try rfl))
    · rintro ⟨i, fr, fd, ver, g, hi, hfr, hfd, hF⟩ K0
      have k1 : ∀ (X : AObj), (g ++ [X])[g.length]? = some X := fun X => getA0 rfl
      have k2 : ∀ (X Y : AObj), (g ++ [X]).set g.length Y = g ++ [Y] := fun X Y => setA0 rfl
      rcases Nat.lt_or_ge i l.length with hc | hc
      · have g1 : decide ((i : Int) < (l.length : Int)) = true := decide_eq_true (by omega)
        have g2 := arrs_getD l i hc
        have g3 := ints_getD .i64 rs i (by omega)
        have ha := hl _ (getD_mem nilA hc)
        have hr' := hr _ (getD_mem 0 (show i < rs.length by omega))
        rw [drop_getD nilA hc, drop_getD 0 (show i < rs.length by omega), frameG] at hF
        generalize l.getD i nilA = a at g2 hF ha
        generalize rs.getD i 0 = r at g3 hF hr'
        have hsl := splitS_len r ha
        generalize hS : splitS a r = s at hF hsl
        obtain ⟨ow, ce, er⟩ := s
        simp only at hF hsl
        obtain ⟨hol, hcl⟩ := hsl
        by_cases e0 : er = 0
        · subst e0
          rw [if_neg (by simp)] at hF
          by_cases o0 : ow = []
          · subst o0
            rw [if_pos rfl] at hF
            have q1 : ((([] : List Int).length : Int) == 0) = true := rfl
            have q2 : decide ((([] : List Int).length : Int) > 0) = false := rfl
            repeat' (first
              | with_reducible refine t_seq fun K => ?_
              | with_reducible refine t_block ?_
              | with_reducible refine t_scope ?_
              | with_reducible refine t_label ?_
              | with_reducible refine t_skip ?_
              | with_reducible refine t_exit ?_
              | with_reducible refine t_ret ?_
              | with_reducible refine t_k ?_
              | (with_reducible refine t_gF ?_)
              | ((first | with_reducible refine t_kE ?_ | with_reducible refine t_kD ?_ | with_reducible refine t_gS ?_ | with_reducible refine t_kL ?_ | (with_reducible refine t_kLE ?_ ?_; rotate_left) | with_reducible refine t_region fun K => ?_ | with_reducible refine t_draw (by kernel_rfl) fun K => ?_); simp only [go_sem, Int.cast_ofNat_Int, Nat.reduceEqDiff, reduceIte, Nat.reduceAdd, Nat.reduceMul, Nat.reduceLeDiff, Nat.reduceSub, Nat.reduceLT, Nat.zero_lt_succ, Int.reduceToNat, Int.reduceAdd, Int.reduceSub, Int.reduceMul, Int.reduceNeg, Int.reduceLT, Int.reduceLE, Int.reduceEq, Int.reduceBEq, Int.reduceBNe, Nat.reduceBEq, List.reduceReplicate, con21_f, con21_c, con19_f, con19_c, hS, spV_def, g1, g2, g3, k1, k2, arrs_length, bools_length, bools_app, arrV_def, arrOf_agg, slK_sl, Int.toNat_natCast, q1, q2])
              | (with_reducible exact kp_nil)
              | (with_reducible exact Kp.refl _)
              | (with_reducible exact kp_to)
              | (with_reducible refine kp_cons ?_)
              | (with_reducible refine kp_arr ?_)
              | (with_reducible refine kp_app ?_)
              | ((with_reducible refine kp_skip ?_ ?_); rfl)
              | ((with_reducible refine t_cond fun A B => ?_); simp only [go_sem, Int.cast_ofNat_Int, Nat.reduceEqDiff, reduceIte, Nat.reduceAdd, Nat.reduceMul, Nat.reduceLeDiff, Nat.reduceSub, Nat.reduceLT, Nat.zero_lt_succ, Int.reduceToNat, Int.reduceAdd, Int.reduceSub, Int.reduceMul, Int.reduceNeg, Int.reduceLT, Int.reduceLE, Int.reduceEq, Int.reduceBEq, Int.reduceBNe, Nat.reduceBEq, List.reduceReplicate, con21_f, con21_c, con19_f, con19_c, hS, spV_def, g1, g2, g3, k1, k2, arrs_length, bools_length, bools_app, arrV_def, arrOf_agg, slK_sl, Int.toNat_natCast, q1, q2]; first | (with_reducible refine A.h ?_) | (with_reducible refine B.h ?_) | refine And.intro (fun hc => A.h ?_) (fun hc => B.h ?_))
              | simp only [thenQ_n, thenQ_r, thenQ_e, blockQ_n, blockQ_r, blockQ_e, scopeQ_n, scopeQ_r, scopeQ_e, Nat.reduceEqDiff, reduceIte]
              | (with_reducible refine And.intro ?_ ?_)
              | with_reducible intro vr)
            all_goals try (intros; (try simp only [Bool.and_eq_true, Bool.or_eq_true, Bool.not_eq_true', decide_eq_true_eq, decide_eq_false_iff_not, beq_iff_eq, bne_iff_ne, ne_eq, inI64, List.length_append] at *) <;> omega)
            all_goals try (first | assumption | (refine ⟨?_, ?_⟩ <;> assumption))
            refine ⟨⟨i + 1, fr, fd ++ [false], ver + 1, g, by omega, hfr, by simp only [List.length_append, List.length_singleton]; omega, hF⟩, by simp only; omega, ?_⟩
            (refine Le.frame ?_; repeat' (first | exact leF_top _ | (with_reducible refine leF_sl ?_ ?_) | (refine leF_upd (LeR.of_eq ?_) ?_))) <;> (try (simp only [go_sem, Int.cast_ofNat_Int, Nat.reduceEqDiff, reduceIte, Nat.reduceAdd, Nat.reduceMul, Nat.reduceLeDiff, Nat.reduceSub, Nat.reduceLT, Nat.zero_lt_succ, Int.reduceToNat, Int.reduceAdd, Int.reduceSub, Int.reduceMul, Int.reduceNeg, Int.reduceLT, Int.reduceLE, Int.reduceEq, Int.reduceBEq, Int.reduceBNe, Nat.reduceBEq, List.reduceReplicate]; try rfl))
          · have o1 := len0 o0
            have q1 : ((ow.length : Int) == 0) = false := by rw [beq_eq_false_iff_ne]; omega
            have q2 : decide ((ow.length : Int) > 0) = true := decide_eq_true (by omega)
            rw [if_neg o0] at hF
            by_cases f0 : fr = []
            · subst f0
              rw [if_pos rfl] at hF
              repeat' (first
                | with_reducible refine t_seq fun K => ?_
                | with_reducible refine t_block ?_
                | with_reducible refine t_scope ?_
                | with_reducible refine t_label ?_
                | with_reducible refine t_skip ?_
                | with_reducible refine t_exit ?_
                | with_reducible refine t_ret ?_
                | with_reducible refine t_k ?_
                | (with_reducible refine t_gF ?_)
                | ((first | with_reducible refine t_kE ?_ | with_reducible refine t_kD ?_ | with_reducible refine t_gS ?_ | with_reducible refine t_kL ?_ | (with_reducible refine t_kLE ?_ ?_; rotate_left) | with_reducible refine t_region fun K => ?_ | with_reducible refine t_draw (by kernel_rfl) fun K => ?_); simp only [go_sem, Int.cast_ofNat_Int, Nat.reduceEqDiff, reduceIte, Nat.reduceAdd, Nat.reduceMul, Nat.reduceLeDiff, Nat.reduceSub, Nat.reduceLT, Nat.zero_lt_succ, Int.reduceToNat, Int.reduceAdd, Int.reduceSub, Int.reduceMul, Int.reduceNeg, Int.reduceLT, Int.reduceLE, Int.reduceEq, Int.reduceBEq, Int.reduceBNe, Nat.reduceBEq, List.reduceReplicate, con21_f, con21_c, con19_f, con19_c, hS, spV_def, g1, g2, g3, k1, k2, arrs_length, bools_length, bools_app, arrV_def, arrOf_agg, slK_sl, Int.toNat_natCast, q1, q2])
                | (with_reducible exact kp_nil)
                | (with_reducible exact Kp.refl _)
                | (with_reducible exact kp_to)
                | (with_reducible refine kp_cons ?_)
                | (with_reducible refine kp_arr ?_)
                | (with_reducible refine kp_app ?_)
                | ((with_reducible refine kp_skip ?_ ?_); rfl)
                | ((with_reducible refine t_cond fun A B => ?_); simp only [go_sem, Int.cast_ofNat_Int, Nat.reduceEqDiff, reduceIte, Nat.reduceAdd, Nat.reduceMul, Nat.reduceLeDiff, Nat.reduceSub, Nat.reduceLT, Nat.zero_lt_succ, Int.reduceToNat, Int.reduceAdd, Int.reduceSub, Int.reduceMul, Int.reduceNeg, Int.reduceLT, Int.reduceLE, Int.reduceEq, Int.reduceBEq, Int.reduceBNe, Nat.reduceBEq, List.reduceReplicate, con21_f, con21_c, con19_f, con19_c, hS, spV_def, g1, g2, g3, k1, k2, arrs_length, bools_length, bools_app, arrV_def, arrOf_agg, slK_sl, Int.toNat_natCast, q1, q2]; first | (with_reducible refine A.h ?_) | (with_reducible refine B.h ?_) | refine And.intro (fun hc => A.h ?_) (fun hc => B.h ?_))
                | simp only [thenQ_n, thenQ_r, thenQ_e, blockQ_n, blockQ_r, blockQ_e, scopeQ_n, scopeQ_r, scopeQ_e, Nat.reduceEqDiff, reduceIte]
                | (with_reducible refine And.intro ?_ ?_)
                | with_reducible intro vr)
              all_goals try (intros; (try simp only [Bool.and_eq_true, Bool.or_eq_true, Bool.not_eq_true', decide_eq_true_eq, decide_eq_false_iff_not, beq_iff_eq, bne_iff_ne, ne_eq, inI64, List.length_append] at *) <;> omega)
              all_goals try (first | assumption | (refine ⟨?_, ?_⟩ <;> assumption))
              refine ⟨⟨i + 1, ow, fd ++ [true], ver + 1, g, by omega, hol, by simp only [List.length_append, List.length_singleton]; omega, hF⟩, by simp only; omega, ?_⟩
              (refine Le.frame ?_; repeat' (first | exact leF_top _ | (with_reducible refine leF_sl ?_ ?_) | (refine leF_upd (LeR.of_eq ?_) ?_))) <;> (try (simp only [go_sem, Int.cast_ofNat_Int, Nat.reduceEqDiff, reduceIte, Nat.reduceAdd, Nat.reduceMul, Nat.reduceLeDiff, Nat.reduceSub, Nat.reduceLT, Nat.zero_lt_succ, Int.reduceToNat, Int.reduceAdd, Int.reduceSub, Int.reduceMul, Int.reduceNeg, Int.reduceLT, Int.reduceLE, Int.reduceEq, Int.reduceBEq, Int.reduceBNe, Nat.reduceBEq, List.reduceReplicate]; try rfl))
            · have f1 := len0 f0
              have q3 : ((fr.length : Int) == 0) = false := by rw [beq_eq_false_iff_ne]; omega
              rw [if_neg f0] at hF
              by_cases l0 : ow.length = fr.length
              · have q4 : ((ow.length : Int) != (fr.length : Int)) = false := by rw [bne_eq_false_iff_eq]; omega
                rw [if_neg (by simpa using l0)] at hF
                by_cases x0 : ow = fr
                · have q5 : decide (ow = fr) = true := decide_eq_true x0
                  rw [if_neg (by simpa using x0)] at hF
                  repeat' (first
                    | with_reducible refine t_seq fun K => ?_
                    | with_reducible refine t_block ?_
                    | with_reducible refine t_scope ?_
                    | with_reducible refine t_label ?_
                    | with_reducible refine t_skip ?_
                    | with_reducible refine t_exit ?_
                    | with_reducible refine t_ret ?_
                    | with_reducible refine t_k ?_
                    | (with_reducible refine t_gF ?_)
                    | ((first | with_reducible refine t_kE ?_ | with_reducible refine t_kD ?_ | with_reducible refine t_gS ?_ | with_reducible refine t_kL ?_ | (with_reducible refine t_kLE ?_ ?_; rotate_left) | with_reducible refine t_region fun K => ?_ | with_reducible refine t_draw (by kernel_rfl) fun K => ?_); simp only [go_sem, Int.cast_ofNat_Int, Nat.reduceEqDiff, reduceIte, Nat.reduceAdd, Nat.reduceMul, Nat.reduceLeDiff, Nat.reduceSub, Nat.reduceLT, Nat.zero_lt_succ, Int.reduceToNat, Int.reduceAdd, Int.reduceSub, Int.reduceMul, Int.reduceNeg, Int.reduceLT, Int.reduceLE, Int.reduceEq, Int.reduceBEq, Int.reduceBNe, Nat.reduceBEq, List.reduceReplicate, con21_f, con21_c, con19_f, con19_c, hS, spV_def, g1, g2, g3, k1, k2, arrs_length, bools_length, bools_app, arrV_def, arrOf_agg, slK_sl, Int.toNat_natCast, q1, q2, q3, q4, q5, Bool.not_true])
                    | (with_reducible exact kp_nil)
                    | (with_reducible exact Kp.refl _)
                    | (with_reducible exact kp_to)
                    | (with_reducible refine kp_cons ?_)
                    | (with_reducible refine kp_arr ?_)
                    | (with_reducible refine kp_app ?_)
                    | ((with_reducible refine kp_skip ?_ ?_); rfl)
                    | ((with_reducible refine t_cond fun A B => ?_); simp only [go_sem, Int.cast_ofNat_Int, Nat.reduceEqDiff, reduceIte, Nat.reduceAdd, Nat.reduceMul, Nat.reduceLeDiff, Nat.reduceSub, Nat.reduceLT, Nat.zero_lt_succ, Int.reduceToNat, Int.reduceAdd, Int.reduceSub, Int.reduceMul, Int.reduceNeg, Int.reduceLT, Int.reduceLE, Int.reduceEq, Int.reduceBEq, Int.reduceBNe, Nat.reduceBEq, List.reduceReplicate, con21_f, con21_c, con19_f, con19_c, hS, spV_def, g1, g2, g3, k1, k2, arrs_length, bools_length, bools_app, arrV_def, arrOf_agg, slK_sl, Int.toNat_natCast, q1, q2, q3, q4, q5, Bool.not_true]; first | (with_reducible refine A.h ?_) | (with_reducible refine B.h ?_) | refine And.intro (fun hc => A.h ?_) (fun hc => B.h ?_))
                    | simp only [thenQ_n, thenQ_r, thenQ_e, blockQ_n, blockQ_r, blockQ_e, scopeQ_n, scopeQ_r, scopeQ_e, Nat.reduceEqDiff, reduceIte]
                    | (with_reducible refine And.intro ?_ ?_)
                    | with_reducible intro vr)
                  all_goals try (intros; (try simp only [Bool.and_eq_true, Bool.or_eq_true, Bool.not_eq_true', decide_eq_true_eq, decide_eq_false_iff_not, beq_iff_eq, bne_iff_ne, ne_eq, inI64, List.length_append] at *) <;> omega)
                  all_goals try (first | assumption | (refine ⟨?_, ?_⟩ <;> assumption))
                  refine ⟨⟨i + 1, fr, fd ++ [true], ver + 1, g, by omega, hfr, by simp only [List.length_append, List.length_singleton]; omega, hF⟩, by simp only; omega, ?_⟩
                  (refine Le.frame ?_; repeat' (first | exact leF_top _ | (with_reducible refine leF_sl ?_ ?_) | (refine leF_upd (LeR.of_eq ?_) ?_))) <;> (try (simp only [go_sem, Int.cast_ofNat_Int, Nat.reduceEqDiff, reduceIte, Nat.reduceAdd, Nat.reduceMul, Nat.reduceLeDiff, Nat.reduceSub, Nat.reduceLT, Nat.zero_lt_succ, Int.reduceToNat, Int.reduceAdd, Int.reduceSub, Int.reduceMul, Int.reduceNeg, Int.reduceLT, Int.reduceLE, Int.reduceEq, Int.reduceBEq, Int.reduceBNe, Nat.reduceBEq, List.reduceReplicate]; try rfl))
                · have q5 : decide (ow = fr) = false := decide_eq_false x0
                  rw [if_pos x0] at hF
                  subst hF
                  repeat' (first
                    | with_reducible refine t_seq fun K => ?_
                    | with_reducible refine t_block ?_
                    | with_reducible refine t_scope ?_
                    | with_reducible refine t_label ?_
                    | with_reducible refine t_skip ?_
                    | with_reducible refine t_exit ?_
                    | with_reducible refine t_ret ?_
                    | with_reducible refine t_k ?_
                    | (with_reducible refine t_gF ?_)
                    | ((first | with_reducible refine t_kE ?_ | with_reducible refine t_kD ?_ | with_reducible refine t_gS ?_ | with_reducible refine t_kL ?_ | (with_reducible refine t_kLE ?_ ?_; rotate_left) | with_reducible refine t_region fun K => ?_ | with_reducible refine t_draw (by kernel_rfl) fun K => ?_); simp only [go_sem, Int.cast_ofNat_Int, Nat.reduceEqDiff, reduceIte, Nat.reduceAdd, Nat.reduceMul, Nat.reduceLeDiff, Nat.reduceSub, Nat.reduceLT, Nat.zero_lt_succ, Int.reduceToNat, Int.reduceAdd, Int.reduceSub, Int.reduceMul, Int.reduceNeg, Int.reduceLT, Int.reduceLE, Int.reduceEq, Int.reduceBEq, Int.reduceBNe, Nat.reduceBEq, List.reduceReplicate, con21_f, con21_c, con19_f, con19_c, hS, spV_def, g1, g2, g3, k1, k2, arrs_length, bools_length, bools_app, arrV_def, arrOf_agg, slK_sl, Int.toNat_natCast, q1, q2, q3, q4, q5, Bool.not_false])
                    | (with_reducible exact kp_nil)
                    | (with_reducible exact Kp.refl _)
                    | (with_reducible exact kp_to)
                    | (with_reducible refine kp_cons ?_)
                    | (with_reducible refine kp_arr ?_)
                    | (with_reducible refine kp_app ?_)
                    | ((with_reducible refine kp_skip ?_ ?_); rfl)
                    | ((with_reducible refine t_cond fun A B => ?_); simp only [go_sem, Int.cast_ofNat_Int, Nat.reduceEqDiff, reduceIte, Nat.reduceAdd, Nat.reduceMul, Nat.reduceLeDiff, Nat.reduceSub, Nat.reduceLT, Nat.zero_lt_succ, Int.reduceToNat, Int.reduceAdd, Int.reduceSub, Int.reduceMul, Int.reduceNeg, Int.reduceLT, Int.reduceLE, Int.reduceEq, Int.reduceBEq, Int.reduceBNe, Nat.reduceBEq, List.reduceReplicate, con21_f, con21_c, con19_f, con19_c, hS, spV_def, g1, g2, g3, k1, k2, arrs_length, bools_length, bools_app, arrV_def, arrOf_agg, slK_sl, Int.toNat_natCast, q1, q2, q3, q4, q5, Bool.not_false]; first | (with_reducible refine A.h ?_) | (with_reducible refine B.h ?_) | refine And.intro (fun hc => A.h ?_) (fun hc => B.h ?_))
                    | simp only [thenQ_n, thenQ_r, thenQ_e, blockQ_n, blockQ_r, blockQ_e, scopeQ_n, scopeQ_r, scopeQ_e, Nat.reduceEqDiff, reduceIte]
                    | (with_reducible refine And.intro ?_ ?_)
                    | with_reducible intro vr)
                  all_goals try (intros; (try simp only [Bool.and_eq_true, Bool.or_eq_true, Bool.not_eq_true', decide_eq_true_eq, decide_eq_false_iff_not, beq_iff_eq, bne_iff_ne, ne_eq, inI64, List.length_append] at *) <;> omega)
                  all_goals try (first | assumption | (refine ⟨?_, ?_⟩ <;> assumption))
                  refine end_ret rfl ?_
                  simp only [fin, go_sem, Int.cast_ofNat_Int, Nat.reduceEqDiff, reduceIte, Nat.reduceAdd, Nat.reduceMul, Nat.reduceLeDiff, Nat.reduceSub, Nat.reduceLT, Nat.zero_lt_succ, Int.reduceToNat, Int.reduceAdd, Int.reduceSub, Int.reduceMul, Int.reduceNeg, Int.reduceLT, Int.reduceLE, Int.reduceEq, Int.reduceBEq, Int.reduceBNe, Nat.reduceBEq, List.reduceReplicate]
                  exact frE_le
              · have q4 : ((ow.length : Int) != (fr.length : Int)) = true := by rw [bne_iff_ne]; omega
                rw [if_pos l0] at hF
                subst hF
                repeat' (first
                  | with_reducible refine t_seq fun K => ?_
                  | with_reducible refine t_block ?_
                  | with_reducible refine t_scope ?_
                  | with_reducible refine t_label ?_
                  | with_reducible refine t_skip ?_
                  | with_reducible refine t_exit ?_
                  | with_reducible refine t_ret ?_
                  | with_reducible refine t_k ?_
                  | (with_reducible refine t_gF ?_)
                  | ((first | with_reducible refine t_kE ?_ | with_reducible refine t_kD ?_ | with_reducible refine t_gS ?_ | with_reducible refine t_kL ?_ | (with_reducible refine t_kLE ?_ ?_; rotate_left) | with_reducible refine t_region fun K => ?_ | with_reducible refine t_draw (by kernel_rfl) fun K => ?_); simp only [go_sem, Int.cast_ofNat_Int, Nat.reduceEqDiff, reduceIte, Nat.reduceAdd, Nat.reduceMul, Nat.reduceLeDiff, Nat.reduceSub, Nat.reduceLT, Nat.zero_lt_succ, Int.reduceToNat, Int.reduceAdd, Int.reduceSub, Int.reduceMul, Int.reduceNeg, Int.reduceLT, Int.reduceLE, Int.reduceEq, Int.reduceBEq, Int.reduceBNe, Nat.reduceBEq, List.reduceReplicate, con21_f, con21_c, con19_f, con19_c, hS, spV_def, g1, g2, g3, k1, k2, arrs_length, bools_length, bools_app, arrV_def, arrOf_agg, slK_sl, Int.toNat_natCast, q1, q2, q3, q4])
                  | (with_reducible exact kp_nil)
                  | (with_reducible exact Kp.refl _)
                  | (with_reducible exact kp_to)
                  | (with_reducible refine kp_cons ?_)
                  | (with_reducible refine kp_arr ?_)
                  | (with_reducible refine kp_app ?_)
                  | ((with_reducible refine kp_skip ?_ ?_); rfl)
                  | ((with_reducible refine t_cond fun A B => ?_); simp only [go_sem, Int.cast_ofNat_Int, Nat.reduceEqDiff, reduceIte, Nat.reduceAdd, Nat.reduceMul, Nat.reduceLeDiff, Nat.reduceSub, Nat.reduceLT, Nat.zero_lt_succ, Int.reduceToNat, Int.reduceAdd, Int.reduceSub, Int.reduceMul, Int.reduceNeg, Int.reduceLT, Int.reduceLE, Int.reduceEq, Int.reduceBEq, Int.reduceBNe, Nat.reduceBEq, List.reduceReplicate, con21_f, con21_c, con19_f, con19_c, hS, spV_def, g1, g2, g3, k1, k2, arrs_length, bools_length, bools_app, arrV_def, arrOf_agg, slK_sl, Int.toNat_natCast, q1, q2, q3, q4]; first | (with_reducible refine A.h ?_) | (with_reducible refine B.h ?_) | refine And.intro (fun hc => A.h ?_) (fun hc => B.h ?_))
                  | simp only [thenQ_n, thenQ_r, thenQ_e, blockQ_n, blockQ_r, blockQ_e, scopeQ_n, scopeQ_r, scopeQ_e, Nat.reduceEqDiff, reduceIte]
                  | (with_reducible refine And.intro ?_ ?_)
                  | with_reducible intro vr)
                all_goals try (intros; (try simp only [Bool.and_eq_true, Bool.or_eq_true, Bool.not_eq_true', decide_eq_true_eq, decide_eq_false_iff_not, beq_iff_eq, bne_iff_ne, ne_eq, inI64, List.length_append] at *) <;> omega)
                all_goals try (first | assumption | (refine ⟨?_, ?_⟩ <;> assumption))
                refine end_ret rfl ?_
                simp only [fin, go_sem, Int.cast_ofNat_Int, Nat.reduceEqDiff, reduceIte, Nat.reduceAdd, Nat.reduceMul, Nat.reduceLeDiff, Nat.reduceSub, Nat.reduceLT, Nat.zero_lt_succ, Int.reduceToNat, Int.reduceAdd, Int.reduceSub, Int.reduceMul, Int.reduceNeg, Int.reduceLT, Int.reduceLE, Int.reduceEq, Int.reduceBEq, Int.reduceBNe, Nat.reduceBEq, List.reduceReplicate]
                exact frE_le
        · have e1 : (er != 0) = true := by rw [bne_iff_ne]; exact e0
          rw [if_pos e0] at hF
          subst hF
          repeat' (first
            | with_reducible refine t_seq fun K => ?_
            | with_reducible refine t_block ?_
            | with_reducible refine t_scope ?_
            | with_reducible refine t_label ?_
            | with_reducible refine t_skip ?_
            | with_reducible refine t_exit ?_
            | with_reducible refine t_ret ?_
            | with_reducible refine t_k ?_
            | (with_reducible refine t_gF ?_)
            | ((first | with_reducible refine t_kE ?_ | with_reducible refine t_kD ?_ | with_reducible refine t_gS ?_ | with_reducible refine t_kL ?_ | (with_reducible refine t_kLE ?_ ?_; rotate_left) | with_reducible refine t_region fun K => ?_ | with_reducible refine t_draw (by kernel_rfl) fun K => ?_); simp only [go_sem, Int.cast_ofNat_Int, Nat.reduceEqDiff, reduceIte, Nat.reduceAdd, Nat.reduceMul, Nat.reduceLeDiff, Nat.reduceSub, Nat.reduceLT, Nat.zero_lt_succ, Int.reduceToNat, Int.reduceAdd, Int.reduceSub, Int.reduceMul, Int.reduceNeg, Int.reduceLT, Int.reduceLE, Int.reduceEq, Int.reduceBEq, Int.reduceBNe, Nat.reduceBEq, List.reduceReplicate, con21_f, con21_c, con19_f, con19_c, hS, spV_def, g1, g2, g3, k1, k2, arrs_length, bools_length, bools_app, arrV_def, arrOf_agg, slK_sl, Int.toNat_natCast, e1])
            | (with_reducible exact kp_nil)
            | (with_reducible exact Kp.refl _)
            | (with_reducible exact kp_to)
            | (with_reducible refine kp_cons ?_)
            | (with_reducible refine kp_arr ?_)
            | (with_reducible refine kp_app ?_)
            | ((with_reducible refine kp_skip ?_ ?_); rfl)
            | ((with_reducible refine t_cond fun A B => ?_); simp only [go_sem, Int.cast_ofNat_Int, Nat.reduceEqDiff, reduceIte, Nat.reduceAdd, Nat.reduceMul, Nat.reduceLeDiff, Nat.reduceSub, Nat.reduceLT, Nat.zero_lt_succ, Int.reduceToNat, Int.reduceAdd, Int.reduceSub, Int.reduceMul, Int.reduceNeg, Int.reduceLT, Int.reduceLE, Int.reduceEq, Int.reduceBEq, Int.reduceBNe, Nat.reduceBEq, List.reduceReplicate, con21_f, con21_c, con19_f, con19_c, hS, spV_def, g1, g2, g3, k1, k2, arrs_length, bools_length, bools_app, arrV_def, arrOf_agg, slK_sl, Int.toNat_natCast, e1]; first | (with_reducible refine A.h ?_) | (with_reducible refine B.h ?_) | refine And.intro (fun hc => A.h ?_) (fun hc => B.h ?_))
            | simp only [thenQ_n, thenQ_r, thenQ_e, blockQ_n, blockQ_r, blockQ_e, scopeQ_n, scopeQ_r, scopeQ_e, Nat.reduceEqDiff, reduceIte]
            | (with_reducible refine And.intro ?_ ?_)
            | with_reducible intro vr)
          all_goals try (intros; (try simp only [Bool.and_eq_true, Bool.or_eq_true, Bool.not_eq_true', decide_eq_true_eq, decide_eq_false_iff_not, beq_iff_eq, bne_iff_ne, ne_eq, inI64, List.length_append] at *) <;> omega)
          all_goals try (first | assumption | (refine ⟨?_, ?_⟩ <;> assumption))
          refine end_ret rfl ?_
          simp only [fin, go_sem, Int.cast_ofNat_Int, Nat.reduceEqDiff, reduceIte, Nat.reduceAdd, Nat.reduceMul, Nat.reduceLeDiff, Nat.reduceSub, Nat.reduceLT, Nat.zero_lt_succ, Int.reduceToNat, Int.reduceAdd, Int.reduceSub, Int.reduceMul, Int.reduceNeg, Int.reduceLT, Int.reduceLE, Int.reduceEq, Int.reduceBEq, Int.reduceBNe, Nat.reduceBEq, List.reduceReplicate]
          exact frE_le
      · have g1 : decide ((i : Int) < (l.length : Int)) = false := decide_eq_false (by omega)
        rw [List.drop_eq_nil_of_le hc, frameG] at hF
        · subst hF
          repeat' (first
            | with_reducible refine t_seq fun K => ?_
            | with_reducible refine t_block ?_
            | with_reducible refine t_scope ?_
            | with_reducible refine t_label ?_
            | with_reducible refine t_skip ?_
            | with_reducible refine t_exit ?_
            | with_reducible refine t_ret ?_
            | with_reducible refine t_k ?_
            | (with_reducible refine t_gF ?_)
            | ((first | with_reducible refine t_kE ?_ | with_reducible refine t_kD ?_ | with_reducible refine t_gS ?_ | with_reducible refine t_kL ?_ | (with_reducible refine t_kLE ?_ ?_; rotate_left) | with_reducible refine t_region fun K => ?_ | with_reducible refine t_draw (by kernel_rfl) fun K => ?_); simp only [go_sem, Int.cast_ofNat_Int, Nat.reduceEqDiff, reduceIte, Nat.reduceAdd, Nat.reduceMul, Nat.reduceLeDiff, Nat.reduceSub, Nat.reduceLT, Nat.zero_lt_succ, Int.reduceToNat, Int.reduceAdd, Int.reduceSub, Int.reduceMul, Int.reduceNeg, Int.reduceLT, Int.reduceLE, Int.reduceEq, Int.reduceBEq, Int.reduceBNe, Nat.reduceBEq, List.reduceReplicate, con21_f, con19_f, g1, arrs_length])
            | (with_reducible exact kp_nil)
            | (with_reducible exact Kp.refl _)
            | (with_reducible exact kp_to)
            | (with_reducible refine kp_cons ?_)
            | (with_reducible refine kp_arr ?_)
            | (with_reducible refine kp_app ?_)
            | ((with_reducible refine kp_skip ?_ ?_); rfl)
            | ((with_reducible refine t_cond fun A B => ?_); simp only [go_sem, Int.cast_ofNat_Int, Nat.reduceEqDiff, reduceIte, Nat.reduceAdd, Nat.reduceMul, Nat.reduceLeDiff, Nat.reduceSub, Nat.reduceLT, Nat.zero_lt_succ, Int.reduceToNat, Int.reduceAdd, Int.reduceSub, Int.reduceMul, Int.reduceNeg, Int.reduceLT, Int.reduceLE, Int.reduceEq, Int.reduceBEq, Int.reduceBNe, Nat.reduceBEq, List.reduceReplicate, con21_f, con19_f, g1, arrs_length]; first | (with_reducible refine A.h ?_) | (with_reducible refine B.h ?_) | refine And.intro (fun hc => A.h ?_) (fun hc => B.h ?_))
            | simp only [thenQ_n, thenQ_r, thenQ_e, blockQ_n, blockQ_r, blockQ_e, scopeQ_n, scopeQ_r, scopeQ_e, Nat.reduceEqDiff, reduceIte]
            | (with_reducible refine And.intro ?_ ?_)
            | with_reducible intro vr)
          all_goals try (intros; (try simp only [Bool.and_eq_true, Bool.or_eq_true, Bool.not_eq_true', decide_eq_true_eq, decide_eq_false_iff_not, beq_iff_eq, bne_iff_ne, ne_eq, inI64, List.length_append] at *) <;> omega)
          refine end_ret rfl ?_
          simp only [fin, go_sem, Int.cast_ofNat_Int, Nat.reduceEqDiff, reduceIte, Nat.reduceAdd, Nat.reduceMul, Nat.reduceLeDiff, Nat.reduceSub, Nat.reduceLT, Nat.zero_lt_succ, Int.reduceToNat, Int.reduceAdd, Int.reduceSub, Int.reduceMul, Int.reduceNeg, Int.reduceLT, Int.reduceLE, Int.reduceEq, Int.reduceBEq, Int.reduceBNe, Nat.reduceBEq, List.reduceReplicate]
          exact LeA.refl _
        · intro _ _ _ _ h; cases h
  · have n1 : ((l.length : Int) != (rs.length : Int)) = true := by rw [bne_iff_ne]; omega
    rw [if_pos hn]
    refine pc_of E16_ok mixed (fun _ => [0, 1, 4, 5, 6, 7, 8, 10, 15, 19, 36, 44, 48, 53, 59]) Try.func18 rfl (by kernel_rfl) (Nat.le_of_ble_eq_true rfl) ?_
    simp only [initF_cons, initF_nil, Nat.reduceAdd]
    refine t_name fun KF => ?_
    unfold E16
    repeat' (first
      | with_reducible refine t_seq fun K => ?_
      | with_reducible refine t_block ?_
      | with_reducible refine t_scope ?_
      | with_reducible refine t_label ?_
      | with_reducible refine t_skip ?_
      | with_reducible refine t_exit ?_
      | with_reducible refine t_ret ?_
      | with_reducible refine t_k ?_
      | (with_reducible refine t_gF ?_)
      | ((first | with_reducible refine t_kE ?_ | with_reducible refine t_kD ?_ | with_reducible refine t_gS ?_ | with_reducible refine t_kL ?_ | (with_reducible refine t_kLE ?_ ?_; rotate_left) | with_reducible refine t_region fun K => ?_ | with_reducible refine t_draw (by kernel_rfl) fun K => ?_); simp only [go_sem, Int.cast_ofNat_Int, Nat.reduceEqDiff, reduceIte, Nat.reduceAdd, Nat.reduceMul, Nat.reduceLeDiff, Nat.reduceSub, Nat.reduceLT, Nat.zero_lt_succ, Int.reduceToNat, Int.reduceAdd, Int.reduceSub, Int.reduceMul, Int.reduceNeg, Int.reduceLT, Int.reduceLE, Int.reduceEq, Int.reduceBEq, Int.reduceBNe, Nat.reduceBEq, List.reduceReplicate, con21_f, con19_f, n1, arrs_length])
      | (with_reducible exact kp_nil)
      | (with_reducible exact Kp.refl _)
      | (with_reducible exact kp_to)
      | (with_reducible refine kp_cons ?_)
      | (with_reducible refine kp_arr ?_)
      | (with_reducible refine kp_app ?_)
      | ((with_reducible refine kp_skip ?_ ?_); rfl)
      | ((with_reducible refine t_cond fun A B => ?_); simp only [go_sem, Int.cast_ofNat_Int, Nat.reduceEqDiff, reduceIte, Nat.reduceAdd, Nat.reduceMul, Nat.reduceLeDiff, Nat.reduceSub, Nat.reduceLT, Nat.zero_lt_succ, Int.reduceToNat, Int.reduceAdd, Int.reduceSub, Int.reduceMul, Int.reduceNeg, Int.reduceLT, Int.reduceLE, Int.reduceEq, Int.reduceBEq, Int.reduceBNe, Nat.reduceBEq, List.reduceReplicate, con21_f, con19_f, n1, arrs_length]; first | (with_reducible refine A.h ?_) | (with_reducible refine B.h ?_) | refine And.intro (fun hc => A.h ?_) (fun hc => B.h ?_))
      | simp only [thenQ_n, thenQ_r, thenQ_e, blockQ_n, blockQ_r, blockQ_e, scopeQ_n, scopeQ_r, scopeQ_e, Nat.reduceEqDiff, reduceIte]
      | (with_reducible refine And.intro ?_ ?_)
      | with_reducible intro vr)
    refine end_ret rfl ?_
    simp only [fin, go_sem, Int.cast_ofNat_Int, Nat.reduceEqDiff, reduceIte, Nat.reduceAdd, Nat.reduceMul, Nat.reduceLeDiff, Nat.reduceSub, Nat.reduceLT, Nat.zero_lt_succ, Int.reduceToNat, Int.reduceAdd, Int.reduceSub, Int.reduceMul, Int.reduceNeg, Int.reduceLT, Int.reduceLE, Int.reduceEq, Int.reduceBEq, Int.reduceBNe, Nat.reduceBEq, List.reduceReplicate]
    exact frE_le
noncomputable def con18 : PCon Try.prog where
  f := 18
  c := fun
    | [xl, xrs] => match arrsOf xl, slK .i64 xrs with | some l, some rs => some (l.length ≤ 1000000 ∧ (∀ a ∈ l, okA a) ∧ (∀ r ∈ rs, inI64 r), frV (frameS l rs)) | _, _ => none
    | _ => none
  ok := by
    intro args p r hc hp
    split at hc
    · split at hc
      · rename_i hl hrs
        cases hc
        exact PC.weak ((fun hp : _ ∧ _ ∧ _ => rframe_pc hp.1 hp.2.1 hp.2.2) hp) ⟨arrsOf_le hl, slK_le hrs, trivial⟩
      · cases hc
    · cases hc
  fk := fk18
theorem con18_f : con18.f = 18 := rfl
theorem con18_c {xl : AV} {xrs : AV} : con18.c [xl, xrs] = match arrsOf xl, slK .i64 xrs with | some l, some rs => some (l.length ≤ 1000000 ∧ (∀ a ∈ l, okA a) ∧ (∀ r ∈ rs, inI64 r), frV (frameS l rs)) | _, _ => none := rfl
end Go.Proofs.Ytjlcbojpiieafaa
