/- Common frames. -/
import Derived.Test.YtcjjakhmpffopaaSA
import Derived.Test.YtcjjakhmpffopaaFwB
import Derived.Lib.AppendZeros
import Derived.Lib.Walk
import Derived.Lib.Slices
import Derived.RangeFuncKeeps
import Derived.RangeFuncBound
import Derived.RangeFuncFrom
import Derived.RangeFuncBox
import Derived.RangeFuncLeaves
import Derived.RangeFuncCalls
import Derived.Shelf.Abstract
import Derived.OwnWalkIn
import Derived.TacticsInMore
import Derived.LoopNIn
import Derived.LoopIn
import Derived.Maps.AppendAt
import Derived.Maps.OwnIn

set_option linter.all false

namespace Go.Proofs.Ytcjjakhmpffopaa
open Go Go.Fw

theorem le_nil {n0 : Nat} {f : Nat → AV} {σ : List AObj} (i e sz : Nat) (h : f i = .lit (.slice none 0 0)) : Le n0 ⟨f, σ⟩ ⟨upd f i (.arr σ.length 0), σ ++ [.arr e sz [] 0 false]⟩ := by
  intro cx G w N a _ hr hf
  obtain ⟨G', h1, h2, h3⟩ := Rel.newEmpty hr e sz none
  refine ⟨G', h2, hf.size, hf.defers, fun j => ?_⟩
  have hj : R G' (f j) (a.tmps.getD j undef) := (hf.rel j).mono h1
  simp only [upd]
  split
  · rename_i e; subst e; rw [h] at hj; rw [hj.lit_inv]; exact h3
  · exact hj
def bools (l : List Bool) : List AV := l.map fun b => .lit (.bool b)
theorem bools_length (l : List Bool) : (bools l).length = l.length := by simp [bools]
theorem bools_app (l : List Bool) (b : Bool) : bools l ++ [.lit (.bool b)] = bools (l ++ [b]) := by simp [bools]
theorem bools_getD (l : List Bool) (i : Nat) (h : i < l.length) : (bools l).getD i .top = .lit (.bool (l.getD i false)) := by simp [bools, List.getD, h]
/-- The common frame, and which arrays have one, with an error. -/
def frameG : List Arr → List Int → List Int → List Bool → List Int × List Bool × Int
  | a :: l, r :: rs, fr, fd =>
    if (splitS a r).2.2 ≠ 0 then ([], [], (splitS a r).2.2)
    else if (splitS a r).1 = [] then frameG l rs fr (fd ++ [false])
    else if fr = [] then frameG l rs (splitS a r).1 (fd ++ [true])
    else if (splitS a r).1.length ≠ fr.length then ([], [], 13)
    else if (splitS a r).1 ≠ fr then ([], [], 14)
    else frameG l rs fr (fd ++ [true])
  | _, _, fr, fd => (fr, fd, 0)
def frameS (l : List Arr) (rs : List Int) : List Int × List Bool × Int := if l.length ≠ rs.length then ([], [], 1) else frameG l rs [] []
def frV (p : List Int × List Bool × Int) : AV := .tup [.sl false 1 (ints .i64 p.1), .sl false 1 (bools p.2.1), .lit (.int .i64 p.2.2)]
theorem frV_def {p : List Int × List Bool × Int} : frV p = .tup [.sl false 1 (ints .i64 p.1), .sl false 1 (bools p.2.1), .lit (.int .i64 p.2.2)] := rfl
theorem frE_le {e : Int} : LeA (.tup [.lit (.slice none 0 0), .lit (.slice none 0 0), .lit (.int .i64 e)]) (frV ([], [], e)) := LeA.tup ⟨LeA.nil _ _, LeA.nil _ _, LeA.refl _, trivial⟩
theorem splitS_len {a : Arr} (r : Int) (h : okA a) : (splitS a r).1.length ≤ 1000000 ∧ (splitS a r).2.1.length ≤ 1000000 := by
  have := h.1
  unfold splitS
  split
  · simp
  split
  · simp
  · simp only [List.length_take, List.length_drop]; omega
theorem len0 {α : Type} {l : List α} (h : l ≠ []) : l.length ≠ 0 := fun e => h (List.eq_nil_of_length_eq_zero e)
theorem getD_mem {α : Type} {l : List α} {i : Nat} (z : α) (h : i < l.length) : l.getD i z ∈ l := by
  rw [List.getD_eq_getElem?_getD, List.getElem?_eq_getElem h]; exact List.getElem_mem _
structure Lf (l : List Arr) (rs : List Int) (G : List Int × List Bool × Int) where
  i : Nat
  fr : List Int
  fd : List Bool
  ver : Nat
  g : List AObj
  hi : i ≤ l.length
  hfr : fr.length ≤ 1000000
  hfd : fd.length ≤ i
  hF : frameG (l.drop i) (rs.drop i) fr fd = G
noncomputable def E15 : Env := envOf (P := Try.prog) zer (fun _ => false) (fun _ => false) [con20, con59] []
theorem E15_ok : EnvOk Try.prog E15 := envOk zer_ok
set_option maxRecDepth 20000 in
set_option maxHeartbeats 4000000 in
theorem frame_pc {l : List Arr} {rs : List Int} (hm : l.length ≤ 1000000) (hl : ∀ a ∈ l, okA a) (hr : ∀ r ∈ rs, inI64 r) : PC Try.prog 17 [.sl false 3 (arrs l), .sl false 1 (ints .i64 rs)] (frV (frameS l rs)) := by
  unfold frameS
  by_cases hn : l.length = rs.length
  · have n1 : ((l.length : Int) != (rs.length : Int)) = false := by rw [bne_eq_false_iff_eq]; omega
    rw [if_neg (by simpa using hn)]
    generalize hG : frameG l rs [] [] = G
    refine pc_of E15_ok mixed (fun _ => [0, 1, 4, 5, 6, 7, 8, 9, 11, 16, 17, 18, 19, 20, 34, 38, 42, 47, 53]) Try.func17 rfl (by kernel_rfl) (Nat.le_of_ble_eq_true rfl) ?_
    simp only [initF_cons, initF_nil, Nat.reduceAdd]
    refine t_name fun KF => ?_
    unfold E15
    repeat' (first
     | (with_reducible first | refine t_seq fun K => ?_ | refine t_block ?_ | refine t_scope ?_ | refine t_label ?_ | refine t_skip ?_ | refine t_exit ?_ | refine t_ret ?_ | refine t_k ?_ | refine t_gF ?_ | exact kp_nil | exact Kp.refl _ | exact kp_to | refine kp_cons ?_ | refine kp_arr ?_ | refine kp_app ?_ | refine t_p ?_ | refine t_br (fun hc => ?_) fun hc => ?_)
     | ((with_reducible first | refine t_kE ?_ | refine t_kD ?_ | refine t_gS ?_ | refine t_kL ?_ | refine t_kLF ?_ ?_ | refine t_region fun K => ?_ | refine t_cond fun A B => ?_ | refine t_draw (by kernel_rfl) fun K => ?_); simp only [go_sem, geff, con20_f, con59_f, n1, arrs_length])
     | ((with_reducible refine kp_skip ?_ ?_); rfl) | simp only [thenQ, blockQ, scopeQ, Nat.reduceEqDiff, reduceIte] | (with_reducible first | refine And.intro ?_ ?_ | intro vr))
    refine t_loop (ι := Lf l rs G) (fun i => ⟨upd (upd (upd (upd (upd (upd topF 19 (.lit (.int .i64 i.i))) 18 (.lit (.int .i64 l.length))) 17 (.sl false 3 (arrs l))) 5 (.arr 0 i.ver)) 4 (.sl false 1 (ints .i64 i.fr))) 1 (.sl false 1 (ints .i64 rs)), .arr 4 1 (bools i.fd) i.ver false :: i.g⟩) (fun i => l.length - i.i) ⟨0, [], [], 0, [], by omega, by simp, by simp, hG⟩ ?_ ?_
    · refine (le_nil 5 4 1 rfl).trans ?_
      (refine Le.frame ?_; repeat' (first | exact leF_top _ | (with_reducible refine leF_sl ?_ ?_) | (refine leF_upd (LeR.of_eq ?_) ?_))) <;> (try (simp only [go_sem]; try rfl))
    · rintro ⟨i, fr, fd, ver, g, hi, hfr, hfd, hF⟩ K0
      have k1 : ∀ (X : AObj), (g ++ [X])[g.length]? = some X := fun X => getA0 rfl
      have k2 : ∀ (X Y : AObj), (g ++ [X]).set g.length Y = g ++ [Y] := fun X Y => setA0 rfl
      rcases Nat.lt_or_ge i l.length with hc | hc
      · have g1 : decide ((i : Int) < (l.length : Int)) = true := decide_eq_true (by omega)
        have g2 := arrs_getD l i hc
        have g3 := ints_getD .i64 rs i (by omega)
        have ha := hl _ (getD_mem nilA hc)
        have hr' := hr _ (getD_mem 0 (show i < rs.length by omega))
        rw [drop_getD nilA hc, drop_getD 0 (show i < rs.length by omega), frameG] at hF
        generalize l.getD i nilA = a at g2 hF ha
        generalize rs.getD i 0 = r at g3 hF hr'
        have hsl := splitS_len r ha
        generalize hS : splitS a r = s at hF hsl
        obtain ⟨ow, ce, er⟩ := s
        simp only at hF hsl
        obtain ⟨hol, hcl⟩ := hsl
        by_cases e0 : er = 0
        · subst e0
          rw [if_neg (by simp)] at hF
          by_cases o0 : ow = []
          · subst o0
            rw [if_pos rfl] at hF
            have q1 : ((([] : List Int).length : Int) == 0) = true := rfl
            have q2 : decide ((([] : List Int).length : Int) > 0) = false := rfl
            repeat' (first
             | (with_reducible first | refine t_seq fun K => ?_ | refine t_block ?_ | refine t_scope ?_ | refine t_label ?_ | refine t_skip ?_ | refine t_exit ?_ | refine t_ret ?_ | refine t_k ?_ | refine t_gF ?_ | exact kp_nil | exact Kp.refl _ | exact kp_to | refine kp_cons ?_ | refine kp_arr ?_ | refine kp_app ?_ | refine t_p ?_ | refine t_br (fun hc => ?_) fun hc => ?_)
             | ((with_reducible first | refine t_kE ?_ | refine t_kD ?_ | refine t_gS ?_ | refine t_kL ?_ | refine t_kLF ?_ ?_ | refine t_region fun K => ?_ | refine t_cond fun A B => ?_ | refine t_draw (by kernel_rfl) fun K => ?_); simp only [go_sem, geff, con20_f, con20_c, con59_f, con59_c, hS, spV_def, g1, g2, g3, k1, k2, arrs_length, bools_length, bools_app, arrV_def, arrOf_agg, slK_sl, Int.toNat_natCast, q1, q2])
             | ((with_reducible refine kp_skip ?_ ?_); rfl) | simp only [thenQ, blockQ, scopeQ, Nat.reduceEqDiff, reduceIte] | (with_reducible first | refine And.intro ?_ ?_ | intro vr))
            all_goals try (intros; (try simp only [Bool.and_eq_true, Bool.or_eq_true, Bool.not_eq_true', decide_eq_true_eq, decide_eq_false_iff_not, beq_iff_eq, bne_iff_ne, ne_eq, inI64, List.length_append] at *) <;> omega)
            all_goals try (first | assumption | (refine ⟨?_, ?_⟩ <;> assumption))
            refine ⟨⟨i + 1, fr, fd ++ [false], ver + 1, g ++ [.box 33 [.lit (.string a.e), .sl false 1 (ints .i64 a.d), .sl false 1 (ints .i64 a.x)]], by omega, hfr, by simp only [List.length_append, List.length_singleton]; omega, hF⟩, by simp only; omega, ?_⟩
            (refine Le.frame ?_; repeat' (first | exact leF_top _ | (with_reducible refine leF_sl ?_ ?_) | (refine leF_upd (LeR.of_eq ?_) ?_))) <;> (try (simp only [go_sem]; try rfl))
          · have o1 := len0 o0
            have q1 : ((ow.length : Int) == 0) = false := by rw [beq_eq_false_iff_ne]; omega
            have q2 : decide ((ow.length : Int) > 0) = true := decide_eq_true (by omega)
            rw [if_neg o0] at hF
            by_cases f0 : fr = []
            · subst f0
              rw [if_pos rfl] at hF
              repeat' (first
               | (with_reducible first | refine t_seq fun K => ?_ | refine t_block ?_ | refine t_scope ?_ | refine t_label ?_ | refine t_skip ?_ | refine t_exit ?_ | refine t_ret ?_ | refine t_k ?_ | refine t_gF ?_ | exact kp_nil | exact Kp.refl _ | exact kp_to | refine kp_cons ?_ | refine kp_arr ?_ | refine kp_app ?_ | refine t_p ?_ | refine t_br (fun hc => ?_) fun hc => ?_)
               | ((with_reducible first | refine t_kE ?_ | refine t_kD ?_ | refine t_gS ?_ | refine t_kL ?_ | refine t_kLF ?_ ?_ | refine t_region fun K => ?_ | refine t_cond fun A B => ?_ | refine t_draw (by kernel_rfl) fun K => ?_); simp only [go_sem, geff, con20_f, con20_c, con59_f, con59_c, hS, spV_def, g1, g2, g3, k1, k2, arrs_length, bools_length, bools_app, arrV_def, arrOf_agg, slK_sl, Int.toNat_natCast, q1, q2])
               | ((with_reducible refine kp_skip ?_ ?_); rfl) | simp only [thenQ, blockQ, scopeQ, Nat.reduceEqDiff, reduceIte] | (with_reducible first | refine And.intro ?_ ?_ | intro vr))
              all_goals try (intros; (try simp only [Bool.and_eq_true, Bool.or_eq_true, Bool.not_eq_true', decide_eq_true_eq, decide_eq_false_iff_not, beq_iff_eq, bne_iff_ne, ne_eq, inI64, List.length_append] at *) <;> omega)
              all_goals try (first | assumption | (refine ⟨?_, ?_⟩ <;> assumption))
              refine ⟨⟨i + 1, ow, fd ++ [true], ver + 1, g ++ [.box 33 [.lit (.string a.e), .sl false 1 (ints .i64 a.d), .sl false 1 (ints .i64 a.x)]], by omega, hol, by simp only [List.length_append, List.length_singleton]; omega, hF⟩, by simp only; omega, ?_⟩
              (refine Le.frame ?_; repeat' (first | exact leF_top _ | (with_reducible refine leF_sl ?_ ?_) | (refine leF_upd (LeR.of_eq ?_) ?_))) <;> (try (simp only [go_sem]; try rfl))
            · have f1 := len0 f0
              have q3 : ((fr.length : Int) == 0) = false := by rw [beq_eq_false_iff_ne]; omega
              rw [if_neg f0] at hF
              by_cases l0 : ow.length = fr.length
              · have q4 : ((ow.length : Int) != (fr.length : Int)) = false := by rw [bne_eq_false_iff_eq]; omega
                rw [if_neg (by simpa using l0)] at hF
                by_cases x0 : ow = fr
                · have q5 : decide (ow = fr) = true := decide_eq_true x0
                  rw [if_neg (by simpa using x0)] at hF
                  repeat' (first
                   | (with_reducible first | refine t_seq fun K => ?_ | refine t_block ?_ | refine t_scope ?_ | refine t_label ?_ | refine t_skip ?_ | refine t_exit ?_ | refine t_ret ?_ | refine t_k ?_ | refine t_gF ?_ | exact kp_nil | exact Kp.refl _ | exact kp_to | refine kp_cons ?_ | refine kp_arr ?_ | refine kp_app ?_ | refine t_p ?_ | refine t_br (fun hc => ?_) fun hc => ?_)
                   | ((with_reducible first | refine t_kE ?_ | refine t_kD ?_ | refine t_gS ?_ | refine t_kL ?_ | refine t_kLF ?_ ?_ | refine t_region fun K => ?_ | refine t_cond fun A B => ?_ | refine t_draw (by kernel_rfl) fun K => ?_); simp only [go_sem, geff, con20_f, con20_c, con59_f, con59_c, hS, spV_def, g1, g2, g3, k1, k2, arrs_length, bools_length, bools_app, arrV_def, arrOf_agg, slK_sl, Int.toNat_natCast, q1, q2, q3, q4, q5, Bool.not_true])
                   | ((with_reducible refine kp_skip ?_ ?_); rfl) | simp only [thenQ, blockQ, scopeQ, Nat.reduceEqDiff, reduceIte] | (with_reducible first | refine And.intro ?_ ?_ | intro vr))
                  all_goals try (intros; (try simp only [Bool.and_eq_true, Bool.or_eq_true, Bool.not_eq_true', decide_eq_true_eq, decide_eq_false_iff_not, beq_iff_eq, bne_iff_ne, ne_eq, inI64, List.length_append] at *) <;> omega)
                  all_goals try (first | assumption | (refine ⟨?_, ?_⟩ <;> assumption))
                  refine ⟨⟨i + 1, fr, fd ++ [true], ver + 1, g ++ [.box 33 [.lit (.string a.e), .sl false 1 (ints .i64 a.d), .sl false 1 (ints .i64 a.x)]], by omega, hfr, by simp only [List.length_append, List.length_singleton]; omega, hF⟩, by simp only; omega, ?_⟩
                  (refine Le.frame ?_; repeat' (first | exact leF_top _ | (with_reducible refine leF_sl ?_ ?_) | (refine leF_upd (LeR.of_eq ?_) ?_))) <;> (try (simp only [go_sem]; try rfl))
                · have q5 : decide (ow = fr) = false := decide_eq_false x0
                  rw [if_pos x0] at hF
                  subst hF
                  repeat' (first
                   | (with_reducible first | refine t_seq fun K => ?_ | refine t_block ?_ | refine t_scope ?_ | refine t_label ?_ | refine t_skip ?_ | refine t_exit ?_ | refine t_ret ?_ | refine t_k ?_ | refine t_gF ?_ | exact kp_nil | exact Kp.refl _ | exact kp_to | refine kp_cons ?_ | refine kp_arr ?_ | refine kp_app ?_ | refine t_p ?_ | refine t_br (fun hc => ?_) fun hc => ?_)
                   | ((with_reducible first | refine t_kE ?_ | refine t_kD ?_ | refine t_gS ?_ | refine t_kL ?_ | refine t_kLF ?_ ?_ | refine t_region fun K => ?_ | refine t_cond fun A B => ?_ | refine t_draw (by kernel_rfl) fun K => ?_); simp only [go_sem, geff, con20_f, con20_c, con59_f, con59_c, hS, spV_def, g1, g2, g3, k1, k2, arrs_length, bools_length, bools_app, arrV_def, arrOf_agg, slK_sl, Int.toNat_natCast, q1, q2, q3, q4, q5, Bool.not_false])
                   | ((with_reducible refine kp_skip ?_ ?_); rfl) | simp only [thenQ, blockQ, scopeQ, Nat.reduceEqDiff, reduceIte] | (with_reducible first | refine And.intro ?_ ?_ | intro vr))
                  all_goals try (intros; (try simp only [Bool.and_eq_true, Bool.or_eq_true, Bool.not_eq_true', decide_eq_true_eq, decide_eq_false_iff_not, beq_iff_eq, bne_iff_ne, ne_eq, inI64, List.length_append] at *) <;> omega)
                  all_goals try (first | assumption | (refine ⟨?_, ?_⟩ <;> assumption))
                  refine end_ret rfl ?_
                  simp only [fin, go_sem]
                  exact frE_le
              · have q4 : ((ow.length : Int) != (fr.length : Int)) = true := by rw [bne_iff_ne]; omega
                rw [if_pos l0] at hF
                subst hF
                repeat' (first
                 | (with_reducible first | refine t_seq fun K => ?_ | refine t_block ?_ | refine t_scope ?_ | refine t_label ?_ | refine t_skip ?_ | refine t_exit ?_ | refine t_ret ?_ | refine t_k ?_ | refine t_gF ?_ | exact kp_nil | exact Kp.refl _ | exact kp_to | refine kp_cons ?_ | refine kp_arr ?_ | refine kp_app ?_ | refine t_p ?_ | refine t_br (fun hc => ?_) fun hc => ?_)
                 | ((with_reducible first | refine t_kE ?_ | refine t_kD ?_ | refine t_gS ?_ | refine t_kL ?_ | refine t_kLF ?_ ?_ | refine t_region fun K => ?_ | refine t_cond fun A B => ?_ | refine t_draw (by kernel_rfl) fun K => ?_); simp only [go_sem, geff, con20_f, con20_c, con59_f, con59_c, hS, spV_def, g1, g2, g3, k1, k2, arrs_length, bools_length, bools_app, arrV_def, arrOf_agg, slK_sl, Int.toNat_natCast, q1, q2, q3, q4])
                 | ((with_reducible refine kp_skip ?_ ?_); rfl) | simp only [thenQ, blockQ, scopeQ, Nat.reduceEqDiff, reduceIte] | (with_reducible first | refine And.intro ?_ ?_ | intro vr))
                all_goals try (intros; (try simp only [Bool.and_eq_true, Bool.or_eq_true, Bool.not_eq_true', decide_eq_true_eq, decide_eq_false_iff_not, beq_iff_eq, bne_iff_ne, ne_eq, inI64, List.length_append] at *) <;> omega)
                all_goals try (first | assumption | (refine ⟨?_, ?_⟩ <;> assumption))
                refine end_ret rfl ?_
                simp only [fin, go_sem]
                exact frE_le
        · have e1 : (er != 0) = true := by rw [bne_iff_ne]; exact e0
          rw [if_pos e0] at hF
          subst hF
          repeat' (first
           | (with_reducible first | refine t_seq fun K => ?_ | refine t_block ?_ | refine t_scope ?_ | refine t_label ?_ | refine t_skip ?_ | refine t_exit ?_ | refine t_ret ?_ | refine t_k ?_ | refine t_gF ?_ | exact kp_nil | exact Kp.refl _ | exact kp_to | refine kp_cons ?_ | refine kp_arr ?_ | refine kp_app ?_ | refine t_p ?_ | refine t_br (fun hc => ?_) fun hc => ?_)
           | ((with_reducible first | refine t_kE ?_ | refine t_kD ?_ | refine t_gS ?_ | refine t_kL ?_ | refine t_kLF ?_ ?_ | refine t_region fun K => ?_ | refine t_cond fun A B => ?_ | refine t_draw (by kernel_rfl) fun K => ?_); simp only [go_sem, geff, con20_f, con20_c, con59_f, con59_c, hS, spV_def, g1, g2, g3, k1, k2, arrs_length, bools_length, bools_app, arrV_def, arrOf_agg, slK_sl, Int.toNat_natCast, e1])
           | ((with_reducible refine kp_skip ?_ ?_); rfl) | simp only [thenQ, blockQ, scopeQ, Nat.reduceEqDiff, reduceIte] | (with_reducible first | refine And.intro ?_ ?_ | intro vr))
          all_goals try (intros; (try simp only [Bool.and_eq_true, Bool.or_eq_true, Bool.not_eq_true', decide_eq_true_eq, decide_eq_false_iff_not, beq_iff_eq, bne_iff_ne, ne_eq, inI64, List.length_append] at *) <;> omega)
          all_goals try (first | assumption | (refine ⟨?_, ?_⟩ <;> assumption))
          refine end_ret rfl ?_
          simp only [fin, go_sem]
          exact frE_le
      · have g1 : decide ((i : Int) < (l.length : Int)) = false := decide_eq_false (by omega)
        rw [List.drop_eq_nil_of_le hc, frameG] at hF
        · subst hF
          repeat' (first
           | (with_reducible first | refine t_seq fun K => ?_ | refine t_block ?_ | refine t_scope ?_ | refine t_label ?_ | refine t_skip ?_ | refine t_exit ?_ | refine t_ret ?_ | refine t_k ?_ | refine t_gF ?_ | exact kp_nil | exact Kp.refl _ | exact kp_to | refine kp_cons ?_ | refine kp_arr ?_ | refine kp_app ?_ | refine t_p ?_ | refine t_br (fun hc => ?_) fun hc => ?_)
           | ((with_reducible first | refine t_kE ?_ | refine t_kD ?_ | refine t_gS ?_ | refine t_kL ?_ | refine t_kLF ?_ ?_ | refine t_region fun K => ?_ | refine t_cond fun A B => ?_ | refine t_draw (by kernel_rfl) fun K => ?_); simp only [go_sem, geff, con20_f, con59_f, g1, arrs_length])
           | ((with_reducible refine kp_skip ?_ ?_); rfl) | simp only [thenQ, blockQ, scopeQ, Nat.reduceEqDiff, reduceIte] | (with_reducible first | refine And.intro ?_ ?_ | intro vr))
          all_goals try (intros; (try simp only [Bool.and_eq_true, Bool.or_eq_true, Bool.not_eq_true', decide_eq_true_eq, decide_eq_false_iff_not, beq_iff_eq, bne_iff_ne, ne_eq, inI64, List.length_append] at *) <;> omega)
          refine end_ret rfl ?_
          simp only [fin, go_sem]
          exact LeA.refl _
        · intro _ _ _ _ h; cases h
  · have n1 : ((l.length : Int) != (rs.length : Int)) = true := by rw [bne_iff_ne]; omega
    rw [if_pos hn]
    refine pc_of E15_ok mixed (fun _ => [0, 1, 4, 5, 6, 7, 8, 9, 11, 16, 17, 18, 19, 20, 34, 38, 42, 47, 53]) Try.func17 rfl (by kernel_rfl) (Nat.le_of_ble_eq_true rfl) ?_
    simp only [initF_cons, initF_nil, Nat.reduceAdd]
    refine t_name fun KF => ?_
    unfold E15
    repeat' (first
     | (with_reducible first | refine t_seq fun K => ?_ | refine t_block ?_ | refine t_scope ?_ | refine t_label ?_ | refine t_skip ?_ | refine t_exit ?_ | refine t_ret ?_ | refine t_k ?_ | refine t_gF ?_ | exact kp_nil | exact Kp.refl _ | exact kp_to | refine kp_cons ?_ | refine kp_arr ?_ | refine kp_app ?_ | refine t_p ?_ | refine t_br (fun hc => ?_) fun hc => ?_)
     | ((with_reducible first | refine t_kE ?_ | refine t_kD ?_ | refine t_gS ?_ | refine t_kL ?_ | refine t_kLF ?_ ?_ | refine t_region fun K => ?_ | refine t_cond fun A B => ?_ | refine t_draw (by kernel_rfl) fun K => ?_); simp only [go_sem, geff, con20_f, con59_f, n1, arrs_length])
     | ((with_reducible refine kp_skip ?_ ?_); rfl) | simp only [thenQ, blockQ, scopeQ, Nat.reduceEqDiff, reduceIte] | (with_reducible first | refine And.intro ?_ ?_ | intro vr))
    refine end_ret rfl ?_
    simp only [fin, go_sem]
    exact frE_le
noncomputable def con17 : PCon Try.prog where
  f := 17
  c := fun
    | [xl, xrs] => match arrsOf xl, slK .i64 xrs with | some l, some rs => some (l.length ≤ 1000000 ∧ (∀ a ∈ l, okA a) ∧ (∀ r ∈ rs, inI64 r), frV (frameS l rs)) | _, _ => none
    | _ => none
  ok := by
    intro args p r hc hp
    split at hc
    · split at hc
      · rename_i hl hrs
        cases hc
        exact PC.weak ((fun hp : _ ∧ _ ∧ _ => frame_pc hp.1 hp.2.1 hp.2.2) hp) ⟨arrsOf_le hl, slK_le hrs, trivial⟩
      · cases hc
    · cases hc
  fk := fk17
theorem con17_f : con17.f = 17 := rfl
theorem con17_c {xl : AV} {xrs : AV} : con17.c [xl, xrs] = match arrsOf xl, slK .i64 xrs with | some l, some rs => some (l.length ≤ 1000000 ∧ (∀ a ∈ l, okA a) ∧ (∀ r ∈ rs, inI64 r), frV (frameS l rs)) | _, _ => none := rfl
noncomputable def E16 : Env := envOf (P := Try.prog) zer (fun _ => false) (fun _ => false) [con21, con19] []
theorem E16_ok : EnvOk Try.prog E16 := envOk zer_ok
set_option maxRecDepth 20000 in
set_option maxHeartbeats 4000000 in
theorem rframe_pc {l : List Arr} {rs : List Int} (hm : l.length ≤ 1000000) (hl : ∀ a ∈ l, okA a) (hr : ∀ r ∈ rs, inI64 r) : PC Try.prog 18 [.sl false 3 (arrs l), .sl false 1 (ints .i64 rs)] (frV (frameS l rs)) := by
  unfold frameS
  by_cases hn : l.length = rs.length
  · have n1 : ((l.length : Int) != (rs.length : Int)) = false := by rw [bne_eq_false_iff_eq]; omega
    rw [if_neg (by simpa using hn)]
    generalize hG : frameG l rs [] [] = G
    refine pc_of E16_ok mixed (fun _ => [0, 1, 4, 5, 6, 7, 8, 10, 15, 19, 36, 44, 48, 53, 59]) Try.func18 rfl (by kernel_rfl) (Nat.le_of_ble_eq_true rfl) ?_
    simp only [initF_cons, initF_nil, Nat.reduceAdd]
    refine t_name fun KF => ?_
    unfold E16
    repeat' (first
     | (with_reducible first | refine t_seq fun K => ?_ | refine t_block ?_ | refine t_scope ?_ | refine t_label ?_ | refine t_skip ?_ | refine t_exit ?_ | refine t_ret ?_ | refine t_k ?_ | refine t_gF ?_ | exact kp_nil | exact Kp.refl _ | exact kp_to | refine kp_cons ?_ | refine kp_arr ?_ | refine kp_app ?_ | refine t_p ?_ | refine t_br (fun hc => ?_) fun hc => ?_)
     | ((with_reducible first | refine t_kE ?_ | refine t_kD ?_ | refine t_gS ?_ | refine t_kL ?_ | refine t_kLF ?_ ?_ | refine t_region fun K => ?_ | refine t_cond fun A B => ?_ | refine t_draw (by kernel_rfl) fun K => ?_); simp only [go_sem, geff, con21_f, con19_f, n1, arrs_length])
     | ((with_reducible refine kp_skip ?_ ?_); rfl) | simp only [thenQ, blockQ, scopeQ, Nat.reduceEqDiff, reduceIte] | (with_reducible first | refine And.intro ?_ ?_ | intro vr))
    refine t_loop (ι := Lf l rs G) (fun i => ⟨upd (upd (upd (upd (upd topF 7 (.lit (.int .i64 i.i))) 5 (.arr 0 i.ver)) 4 (.sl false 1 (ints .i64 i.fr))) 1 (.sl false 1 (ints .i64 rs))) 0 (.sl false 3 (arrs l)), .arr 4 1 (bools i.fd) i.ver false :: i.g⟩) (fun i => l.length - i.i) ⟨0, [], [], 0, [], by omega, by simp, by simp, hG⟩ ?_ ?_
    · refine (le_nil 5 4 1 rfl).trans ?_
      (refine Le.frame ?_; repeat' (first | exact leF_top _ | (with_reducible refine leF_sl ?_ ?_) | (refine leF_upd (LeR.of_eq ?_) ?_))) <;> (try (simp only [go_sem]; try rfl))
    · rintro ⟨i, fr, fd, ver, g, hi, hfr, hfd, hF⟩ K0
      have k1 : ∀ (X : AObj), (g ++ [X])[g.length]? = some X := fun X => getA0 rfl
      have k2 : ∀ (X Y : AObj), (g ++ [X]).set g.length Y = g ++ [Y] := fun X Y => setA0 rfl
      rcases Nat.lt_or_ge i l.length with hc | hc
      · have g1 : decide ((i : Int) < (l.length : Int)) = true := decide_eq_true (by omega)
        have g2 := arrs_getD l i hc
        have g3 := ints_getD .i64 rs i (by omega)
        have ha := hl _ (getD_mem nilA hc)
        have hr' := hr _ (getD_mem 0 (show i < rs.length by omega))
        rw [drop_getD nilA hc, drop_getD 0 (show i < rs.length by omega), frameG] at hF
        generalize l.getD i nilA = a at g2 hF ha
        generalize rs.getD i 0 = r at g3 hF hr'
        have hsl := splitS_len r ha
        generalize hS : splitS a r = s at hF hsl
        obtain ⟨ow, ce, er⟩ := s
        simp only at hF hsl
        obtain ⟨hol, hcl⟩ := hsl
        by_cases e0 : er = 0
        · subst e0
          rw [if_neg (by simp)] at hF
          by_cases o0 : ow = []
          · subst o0
            rw [if_pos rfl] at hF
            have q1 : ((([] : List Int).length : Int) == 0) = true := rfl
            have q2 : decide ((([] : List Int).length : Int) > 0) = false := rfl
            repeat' (first
             | (with_reducible first | refine t_seq fun K => ?_ | refine t_block ?_ | refine t_scope ?_ | refine t_label ?_ | refine t_skip ?_ | refine t_exit ?_ | refine t_ret ?_ | refine t_k ?_ | refine t_gF ?_ | exact kp_nil | exact Kp.refl _ | exact kp_to | refine kp_cons ?_ | refine kp_arr ?_ | refine kp_app ?_ | refine t_p ?_ | refine t_br (fun hc => ?_) fun hc => ?_)
             | ((with_reducible first | refine t_kE ?_ | refine t_kD ?_ | refine t_gS ?_ | refine t_kL ?_ | refine t_kLF ?_ ?_ | refine t_region fun K => ?_ | refine t_cond fun A B => ?_ | refine t_draw (by kernel_rfl) fun K => ?_); simp only [go_sem, geff, con21_f, con21_c, con19_f, con19_c, hS, spV_def, g1, g2, g3, k1, k2, arrs_length, bools_length, bools_app, arrV_def, arrOf_agg, slK_sl, Int.toNat_natCast, q1, q2])
             | ((with_reducible refine kp_skip ?_ ?_); rfl) | simp only [thenQ, blockQ, scopeQ, Nat.reduceEqDiff, reduceIte] | (with_reducible first | refine And.intro ?_ ?_ | intro vr))
            all_goals try (intros; (try simp only [Bool.and_eq_true, Bool.or_eq_true, Bool.not_eq_true', decide_eq_true_eq, decide_eq_false_iff_not, beq_iff_eq, bne_iff_ne, ne_eq, inI64, List.length_append] at *) <;> omega)
            all_goals try (first | assumption | (refine ⟨?_, ?_⟩ <;> assumption))
            refine ⟨⟨i + 1, fr, fd ++ [false], ver + 1, g, by omega, hfr, by simp only [List.length_append, List.length_singleton]; omega, hF⟩, by simp only; omega, ?_⟩
            (refine Le.frame ?_; repeat' (first | exact leF_top _ | (with_reducible refine leF_sl ?_ ?_) | (refine leF_upd (LeR.of_eq ?_) ?_))) <;> (try (simp only [go_sem]; try rfl))
          · have o1 := len0 o0
            have q1 : ((ow.length : Int) == 0) = false := by rw [beq_eq_false_iff_ne]; omega
            have q2 : decide ((ow.length : Int) > 0) = true := decide_eq_true (by omega)
            rw [if_neg o0] at hF
            by_cases f0 : fr = []
            · subst f0
              rw [if_pos rfl] at hF
              repeat' (first
               | (with_reducible first | refine t_seq fun K => ?_ | refine t_block ?_ | refine t_scope ?_ | refine t_label ?_ | refine t_skip ?_ | refine t_exit ?_ | refine t_ret ?_ | refine t_k ?_ | refine t_gF ?_ | exact kp_nil | exact Kp.refl _ | exact kp_to | refine kp_cons ?_ | refine kp_arr ?_ | refine kp_app ?_ | refine t_p ?_ | refine t_br (fun hc => ?_) fun hc => ?_)
               | ((with_reducible first | refine t_kE ?_ | refine t_kD ?_ | refine t_gS ?_ | refine t_kL ?_ | refine t_kLF ?_ ?_ | refine t_region fun K => ?_ | refine t_cond fun A B => ?_ | refine t_draw (by kernel_rfl) fun K => ?_); simp only [go_sem, geff, con21_f, con21_c, con19_f, con19_c, hS, spV_def, g1, g2, g3, k1, k2, arrs_length, bools_length, bools_app, arrV_def, arrOf_agg, slK_sl, Int.toNat_natCast, q1, q2])
               | ((with_reducible refine kp_skip ?_ ?_); rfl) | simp only [thenQ, blockQ, scopeQ, Nat.reduceEqDiff, reduceIte] | (with_reducible first | refine And.intro ?_ ?_ | intro vr))
              all_goals try (intros; (try simp only [Bool.and_eq_true, Bool.or_eq_true, Bool.not_eq_true', decide_eq_true_eq, decide_eq_false_iff_not, beq_iff_eq, bne_iff_ne, ne_eq, inI64, List.length_append] at *) <;> omega)
              all_goals try (first | assumption | (refine ⟨?_, ?_⟩ <;> assumption))
              refine ⟨⟨i + 1, ow, fd ++ [true], ver + 1, g, by omega, hol, by simp only [List.length_append, List.length_singleton]; omega, hF⟩, by simp only; omega, ?_⟩
              (refine Le.frame ?_; repeat' (first | exact leF_top _ | (with_reducible refine leF_sl ?_ ?_) | (refine leF_upd (LeR.of_eq ?_) ?_))) <;> (try (simp only [go_sem]; try rfl))
            · have f1 := len0 f0
              have q3 : ((fr.length : Int) == 0) = false := by rw [beq_eq_false_iff_ne]; omega
              rw [if_neg f0] at hF
              by_cases l0 : ow.length = fr.length
              · have q4 : ((ow.length : Int) != (fr.length : Int)) = false := by rw [bne_eq_false_iff_eq]; omega
                rw [if_neg (by simpa using l0)] at hF
                by_cases x0 : ow = fr
                · have q5 : decide (ow = fr) = true := decide_eq_true x0
                  rw [if_neg (by simpa using x0)] at hF
                  repeat' (first
                   | (with_reducible first | refine t_seq fun K => ?_ | refine t_block ?_ | refine t_scope ?_ | refine t_label ?_ | refine t_skip ?_ | refine t_exit ?_ | refine t_ret ?_ | refine t_k ?_ | refine t_gF ?_ | exact kp_nil | exact Kp.refl _ | exact kp_to | refine kp_cons ?_ | refine kp_arr ?_ | refine kp_app ?_ | refine t_p ?_ | refine t_br (fun hc => ?_) fun hc => ?_)
                   | ((with_reducible first | refine t_kE ?_ | refine t_kD ?_ | refine t_gS ?_ | refine t_kL ?_ | refine t_kLF ?_ ?_ | refine t_region fun K => ?_ | refine t_cond fun A B => ?_ | refine t_draw (by kernel_rfl) fun K => ?_); simp only [go_sem, geff, con21_f, con21_c, con19_f, con19_c, hS, spV_def, g1, g2, g3, k1, k2, arrs_length, bools_length, bools_app, arrV_def, arrOf_agg, slK_sl, Int.toNat_natCast, q1, q2, q3, q4, q5, Bool.not_true])
                   | ((with_reducible refine kp_skip ?_ ?_); rfl) | simp only [thenQ, blockQ, scopeQ, Nat.reduceEqDiff, reduceIte] | (with_reducible first | refine And.intro ?_ ?_ | intro vr))
                  all_goals try (intros; (try simp only [Bool.and_eq_true, Bool.or_eq_true, Bool.not_eq_true', decide_eq_true_eq, decide_eq_false_iff_not, beq_iff_eq, bne_iff_ne, ne_eq, inI64, List.length_append] at *) <;> omega)
                  all_goals try (first | assumption | (refine ⟨?_, ?_⟩ <;> assumption))
                  refine ⟨⟨i + 1, fr, fd ++ [true], ver + 1, g, by omega, hfr, by simp only [List.length_append, List.length_singleton]; omega, hF⟩, by simp only; omega, ?_⟩
                  (refine Le.frame ?_; repeat' (first | exact leF_top _ | (with_reducible refine leF_sl ?_ ?_) | (refine leF_upd (LeR.of_eq ?_) ?_))) <;> (try (simp only [go_sem]; try rfl))
                · have q5 : decide (ow = fr) = false := decide_eq_false x0
                  rw [if_pos x0] at hF
                  subst hF
                  repeat' (first
                   | (with_reducible first | refine t_seq fun K => ?_ | refine t_block ?_ | refine t_scope ?_ | refine t_label ?_ | refine t_skip ?_ | refine t_exit ?_ | refine t_ret ?_ | refine t_k ?_ | refine t_gF ?_ | exact kp_nil | exact Kp.refl _ | exact kp_to | refine kp_cons ?_ | refine kp_arr ?_ | refine kp_app ?_ | refine t_p ?_ | refine t_br (fun hc => ?_) fun hc => ?_)
                   | ((with_reducible first | refine t_kE ?_ | refine t_kD ?_ | refine t_gS ?_ | refine t_kL ?_ | refine t_kLF ?_ ?_ | refine t_region fun K => ?_ | refine t_cond fun A B => ?_ | refine t_draw (by kernel_rfl) fun K => ?_); simp only [go_sem, geff, con21_f, con21_c, con19_f, con19_c, hS, spV_def, g1, g2, g3, k1, k2, arrs_length, bools_length, bools_app, arrV_def, arrOf_agg, slK_sl, Int.toNat_natCast, q1, q2, q3, q4, q5, Bool.not_false])
                   | ((with_reducible refine kp_skip ?_ ?_); rfl) | simp only [thenQ, blockQ, scopeQ, Nat.reduceEqDiff, reduceIte] | (with_reducible first | refine And.intro ?_ ?_ | intro vr))
                  all_goals try (intros; (try simp only [Bool.and_eq_true, Bool.or_eq_true, Bool.not_eq_true', decide_eq_true_eq, decide_eq_false_iff_not, beq_iff_eq, bne_iff_ne, ne_eq, inI64, List.length_append] at *) <;> omega)
                  all_goals try (first | assumption | (refine ⟨?_, ?_⟩ <;> assumption))
                  refine end_ret rfl ?_
                  simp only [fin, go_sem]
                  exact frE_le
              · have q4 : ((ow.length : Int) != (fr.length : Int)) = true := by rw [bne_iff_ne]; omega
                rw [if_pos l0] at hF
                subst hF
                repeat' (first
                 | (with_reducible first | refine t_seq fun K => ?_ | refine t_block ?_ | refine t_scope ?_ | refine t_label ?_ | refine t_skip ?_ | refine t_exit ?_ | refine t_ret ?_ | refine t_k ?_ | refine t_gF ?_ | exact kp_nil | exact Kp.refl _ | exact kp_to | refine kp_cons ?_ | refine kp_arr ?_ | refine kp_app ?_ | refine t_p ?_ | refine t_br (fun hc => ?_) fun hc => ?_)
                 | ((with_reducible first | refine t_kE ?_ | refine t_kD ?_ | refine t_gS ?_ | refine t_kL ?_ | refine t_kLF ?_ ?_ | refine t_region fun K => ?_ | refine t_cond fun A B => ?_ | refine t_draw (by kernel_rfl) fun K => ?_); simp only [go_sem, geff, con21_f, con21_c, con19_f, con19_c, hS, spV_def, g1, g2, g3, k1, k2, arrs_length, bools_length, bools_app, arrV_def, arrOf_agg, slK_sl, Int.toNat_natCast, q1, q2, q3, q4])
                 | ((with_reducible refine kp_skip ?_ ?_); rfl) | simp only [thenQ, blockQ, scopeQ, Nat.reduceEqDiff, reduceIte] | (with_reducible first | refine And.intro ?_ ?_ | intro vr))
                all_goals try (intros; (try simp only [Bool.and_eq_true, Bool.or_eq_true, Bool.not_eq_true', decide_eq_true_eq, decide_eq_false_iff_not, beq_iff_eq, bne_iff_ne, ne_eq, inI64, List.length_append] at *) <;> omega)
                all_goals try (first | assumption | (refine ⟨?_, ?_⟩ <;> assumption))
                refine end_ret rfl ?_
                simp only [fin, go_sem]
                exact frE_le
        · have e1 : (er != 0) = true := by rw [bne_iff_ne]; exact e0
          rw [if_pos e0] at hF
          subst hF
          repeat' (first
           | (with_reducible first | refine t_seq fun K => ?_ | refine t_block ?_ | refine t_scope ?_ | refine t_label ?_ | refine t_skip ?_ | refine t_exit ?_ | refine t_ret ?_ | refine t_k ?_ | refine t_gF ?_ | exact kp_nil | exact Kp.refl _ | exact kp_to | refine kp_cons ?_ | refine kp_arr ?_ | refine kp_app ?_ | refine t_p ?_ | refine t_br (fun hc => ?_) fun hc => ?_)
           | ((with_reducible first | refine t_kE ?_ | refine t_kD ?_ | refine t_gS ?_ | refine t_kL ?_ | refine t_kLF ?_ ?_ | refine t_region fun K => ?_ | refine t_cond fun A B => ?_ | refine t_draw (by kernel_rfl) fun K => ?_); simp only [go_sem, geff, con21_f, con21_c, con19_f, con19_c, hS, spV_def, g1, g2, g3, k1, k2, arrs_length, bools_length, bools_app, arrV_def, arrOf_agg, slK_sl, Int.toNat_natCast, e1])
           | ((with_reducible refine kp_skip ?_ ?_); rfl) | simp only [thenQ, blockQ, scopeQ, Nat.reduceEqDiff, reduceIte] | (with_reducible first | refine And.intro ?_ ?_ | intro vr))
          all_goals try (intros; (try simp only [Bool.and_eq_true, Bool.or_eq_true, Bool.not_eq_true', decide_eq_true_eq, decide_eq_false_iff_not, beq_iff_eq, bne_iff_ne, ne_eq, inI64, List.length_append] at *) <;> omega)
          all_goals try (first | assumption | (refine ⟨?_, ?_⟩ <;> assumption))
          refine end_ret rfl ?_
          simp only [fin, go_sem]
          exact frE_le
      · have g1 : decide ((i : Int) < (l.length : Int)) = false := decide_eq_false (by omega)
        rw [List.drop_eq_nil_of_le hc, frameG] at hF
        · subst hF
          repeat' (first
           | (with_reducible first | refine t_seq fun K => ?_ | refine t_block ?_ | refine t_scope ?_ | refine t_label ?_ | refine t_skip ?_ | refine t_exit ?_ | refine t_ret ?_ | refine t_k ?_ | refine t_gF ?_ | exact kp_nil | exact Kp.refl _ | exact kp_to | refine kp_cons ?_ | refine kp_arr ?_ | refine kp_app ?_ | refine t_p ?_ | refine t_br (fun hc => ?_) fun hc => ?_)
           | ((with_reducible first | refine t_kE ?_ | refine t_kD ?_ | refine t_gS ?_ | refine t_kL ?_ | refine t_kLF ?_ ?_ | refine t_region fun K => ?_ | refine t_cond fun A B => ?_ | refine t_draw (by kernel_rfl) fun K => ?_); simp only [go_sem, geff, con21_f, con19_f, g1, arrs_length])
           | ((with_reducible refine kp_skip ?_ ?_); rfl) | simp only [thenQ, blockQ, scopeQ, Nat.reduceEqDiff, reduceIte] | (with_reducible first | refine And.intro ?_ ?_ | intro vr))
          all_goals try (intros; (try simp only [Bool.and_eq_true, Bool.or_eq_true, Bool.not_eq_true', decide_eq_true_eq, decide_eq_false_iff_not, beq_iff_eq, bne_iff_ne, ne_eq, inI64, List.length_append] at *) <;> omega)
          refine end_ret rfl ?_
          simp only [fin, go_sem]
          exact LeA.refl _
        · intro _ _ _ _ h; cases h
  · have n1 : ((l.length : Int) != (rs.length : Int)) = true := by rw [bne_iff_ne]; omega
    rw [if_pos hn]
    refine pc_of E16_ok mixed (fun _ => [0, 1, 4, 5, 6, 7, 8, 10, 15, 19, 36, 44, 48, 53, 59]) Try.func18 rfl (by kernel_rfl) (Nat.le_of_ble_eq_true rfl) ?_
    simp only [initF_cons, initF_nil, Nat.reduceAdd]
    refine t_name fun KF => ?_
    unfold E16
    repeat' (first
     | (with_reducible first | refine t_seq fun K => ?_ | refine t_block ?_ | refine t_scope ?_ | refine t_label ?_ | refine t_skip ?_ | refine t_exit ?_ | refine t_ret ?_ | refine t_k ?_ | refine t_gF ?_ | exact kp_nil | exact Kp.refl _ | exact kp_to | refine kp_cons ?_ | refine kp_arr ?_ | refine kp_app ?_ | refine t_p ?_ | refine t_br (fun hc => ?_) fun hc => ?_)
     | ((with_reducible first | refine t_kE ?_ | refine t_kD ?_ | refine t_gS ?_ | refine t_kL ?_ | refine t_kLF ?_ ?_ | refine t_region fun K => ?_ | refine t_cond fun A B => ?_ | refine t_draw (by kernel_rfl) fun K => ?_); simp only [go_sem, geff, con21_f, con19_f, n1, arrs_length])
     | ((with_reducible refine kp_skip ?_ ?_); rfl) | simp only [thenQ, blockQ, scopeQ, Nat.reduceEqDiff, reduceIte] | (with_reducible first | refine And.intro ?_ ?_ | intro vr))
    refine end_ret rfl ?_
    simp only [fin, go_sem]
    exact frE_le
noncomputable def con18 : PCon Try.prog where
  f := 18
  c := fun
    | [xl, xrs] => match arrsOf xl, slK .i64 xrs with | some l, some rs => some (l.length ≤ 1000000 ∧ (∀ a ∈ l, okA a) ∧ (∀ r ∈ rs, inI64 r), frV (frameS l rs)) | _, _ => none
    | _ => none
  ok := by
    intro args p r hc hp
    split at hc
    · split at hc
      · rename_i hl hrs
        cases hc
        exact PC.weak ((fun hp : _ ∧ _ ∧ _ => rframe_pc hp.1 hp.2.1 hp.2.2) hp) ⟨arrsOf_le hl, slK_le hrs, trivial⟩
      · cases hc
    · cases hc
  fk := fk18
theorem con18_f : con18.f = 18 := rfl
theorem con18_c {xl : AV} {xrs : AV} : con18.c [xl, xrs] = match arrsOf xl, slK .i64 xrs with | some l, some rs => some (l.length ≤ 1000000 ∧ (∀ a ∈ l, okA a) ∧ (∀ r ∈ rs, inI64 r), frV (frameS l rs)) | _, _ => none := rfl
end Go.Proofs.Ytcjjakhmpffopaa

/- A law's arguments that are structs. -/
namespace Go.Proofs.Ytcjjakhmpffopaa
open Go Go.Fw

def fieldTs (P : Program) (t : TypeId) : List TypeId := match P.underlying t with
  | some (.struct fs) => fs.toList.map (·.type)
  | _ => []
theorem struct_of {P : Program} {t : TypeId} {ts : List TypeId} (hne : ts ≠ []) (h : fieldTs P t = ts) : ∃ fs : Array Field, P.underlying t = some (.struct fs) ∧ fs.toList.map (·.type) = ts := by
  unfold fieldTs at h
  split at h
  · rename_i e; exact ⟨_, e, h⟩
  · exact absurd h.symm hne
theorem sh_fields {P : Program} {t : TypeId} {ts : List TypeId} {xs : List AV} (hne : ts ≠ []) (ht : fieldTs P t = ts) (h : Sh P t xs) :
    ∃ xss : List (List AV), xs = xss.flatten ∧ xss.length = ts.length ∧ ∀ (i : Nat) (u : TypeId) (ys : List AV), ts[i]? = some u → xss[i]? = some ys → Sh P u ys := by
  obtain ⟨fs, hf, hm⟩ := struct_of hne ht
  obtain ⟨xss, h1, h2, h3⟩ := sh_struct hf h
  refine ⟨xss, h1, by rw [h2, ← hm]; simp, fun i u ys hu hy => ?_⟩
  rw [← hm, List.getElem?_map] at hu
  cases hi : fs.toList[i]? with
  | none => rw [hi] at hu; cases hu
  | some f => rw [hi] at hu; cases hu; exact h3 i f ys hi hy
theorem sh_three {P : Program} {t a b c : TypeId} {xs : List AV} (ht : fieldTs P t = [a, b, c]) (h : Sh P t xs) : ∃ p q r, xs = p ++ (q ++ r) ∧ Sh P a p ∧ Sh P b q ∧ Sh P c r := by
  obtain ⟨xss, h1, h2, h3⟩ := sh_fields (by simp) ht h
  match xss, h2 with
  | [p, q, r], _ => exact ⟨p, q, r, by simpa using h1, h3 0 a p rfl rfl, h3 1 b q rfl rfl, h3 2 c r rfl rfl⟩
theorem sh_two {P : Program} {t a b : TypeId} {xs : List AV} (ht : fieldTs P t = [a, b]) (h : Sh P t xs) : ∃ p q, xs = p ++ q ∧ Sh P a p ∧ Sh P b q := by
  obtain ⟨xss, h1, h2, h3⟩ := sh_fields (by simp) ht h
  match xss, h2 with
  | [p, q], _ => exact ⟨p, q, by simpa using h1, h3 0 a p rfl rfl, h3 1 b q rfl rfl⟩
theorem ft33 : fieldTs Try.prog 33 = [9, 23, 23] := by kernel_rfl
def okW (a : Arr) : Prop := (∀ n ∈ a.d, inI64 n) ∧ (∀ n ∈ a.x, inI64 n) ∧ a.d.length ≤ maxLen ∧ a.x.length ≤ maxLen
theorem shv_arr {x : AV} (h : ShV Try.prog 33 x) : ∃ a : Arr, x = arrV a ∧ okW a := by
  obtain ⟨c, rfl, hc⟩ := shv_agg ag33 h
  obtain ⟨p, q, r, rfl, hp, hq, hr⟩ := sh_three ft33 hc
  obtain ⟨s, rfl, hs⟩ := sh_str u9 hp
  obtain ⟨d, rfl, hd, hd'⟩ := sh_ints u23 u3 sz3 hq
  obtain ⟨w, rfl, hw, hw'⟩ := sh_ints u23 u3 sz3 hr
  exact ⟨⟨s, d, w⟩, rfl, fun n hn => wf_i64 (hd' n hn), fun n hn => wf_i64 (hw' n hn), hd, hw⟩
theorem list_arrs {q : Arr → Prop} : ∀ {ys : List AV}, (∀ y ∈ ys, ∃ a, y = arrV a ∧ q a) → ∃ l : List Arr, ys = arrs l ∧ ∀ a ∈ l, q a
  | [], _ => ⟨[], rfl, by simp⟩
  | y :: ys, h => by
    obtain ⟨n, rfl, hn⟩ := h y (by simp)
    obtain ⟨l, rfl, hl⟩ := list_arrs (ys := ys) fun z hz => h z (by simp [hz])
    exact ⟨n :: l, rfl, fun m hm => by rcases List.mem_cons.1 hm with rfl | hm; exact hn; exact hl m hm⟩
theorem shv_arrs {x : AV} (h : ShV Try.prog 22 x) : ∃ l : List Arr, x = .sl false 3 (arrs l) ∧ l.length ≤ maxLen ∧ ∀ a ∈ l, okW a := by
  obtain ⟨ys, rfl, hl, hy⟩ := shv_slice u22 h
  obtain ⟨l, rfl, hq⟩ := list_arrs fun y hm => shv_arr (hy y hm)
  exact ⟨l, by rw [sz33], by simpa [arrs] using hl, hq⟩
end Go.Proofs.Ytcjjakhmpffopaa

/- The examples of the document; the law on frames. -/
namespace Go.Proofs.Ytcjjakhmpffopaa
open Go Go.Fw

def zz (n : Nat) : List Int := List.replicate n 0
theorem okA_zz {e : ByteArray} {d : List Int} {n : Nat} (hd : d.length ≤ 1000000) (hn : n ≤ 1000000) : okA ⟨e, d, zz n⟩ := ⟨hd, by simpa [zz] using hn⟩
theorem inI64_small {n : Int} (h : 0 ≤ n ∧ n ≤ 10) : inI64 n := by unfold inI64; omega
noncomputable def E17 : Env := envOf (P := Try.prog) zer (fun _ => false) (fun _ => false) [con17, con19, con20, con29] []
theorem E17_ok : EnvOk Try.prog E17 := envOk zer_ok
set_option maxRecDepth 20000 in
set_option maxHeartbeats 4000000 in
theorem awake_pc : PC Try.prog 15 [] (.lit (.bool true)) := by
  have z1 : zerosS sInt [2, 3, 4] = (⟨sInt, [2, 3, 4], zz 24⟩, 0) := rfl
  have z2 : zerosS sInt [2, 3] = (⟨sInt, [2, 3], zz 6⟩, 0) := rfl
  have z3 : zerosS sInt [3] = (⟨sInt, [3], zz 3⟩, 0) := rfl
  have s1 : splitS ⟨sInt, [2, 3, 4], zz 24⟩ 2 = ([2], [3, 4], 0) := rfl
  have f1 : frameS [⟨sInt, [2, 3], zz 6⟩, ⟨sInt, [3], zz 3⟩] [1, 1] = ([2], [true, false], 0) := rfl
  have f2 : frameS [⟨sInt, [2, 3], zz 6⟩, ⟨sInt, [3], zz 3⟩] [0, 0] = ([], [], 13) := rfl
  have b0 : (bools [true, false]).getD 0 .top = .lit (.bool true) := rfl
  have b1 : (bools [true, false]).getD 1 .top = .lit (.bool false) := rfl
  have d1 : decide (([2] : List Int) = [2]) = true := rfl
  have d2 : decide (([3, 4] : List Int) = [3, 4]) = true := rfl
  refine pc_of E17_ok mixed (fun _ => [0, 1, 2, 3, 4, 5, 6, 9]) Try.func15 rfl (by kernel_rfl) (Nat.le_of_ble_eq_true rfl) ?_
  simp only [initF_cons, initF_nil, Nat.reduceAdd]
  refine t_name fun KF => ?_
  unfold E17
  repeat' (first
   | (with_reducible first | refine t_seq fun K => ?_ | refine t_block ?_ | refine t_scope ?_ | refine t_label ?_ | refine t_skip ?_ | refine t_exit ?_ | refine t_ret ?_ | refine t_k ?_ | refine t_gF ?_ | exact kp_nil | exact Kp.refl _ | exact kp_to | refine kp_cons ?_ | refine kp_arr ?_ | refine kp_app ?_ | refine t_p ?_ | refine t_br (fun hc => ?_) fun hc => ?_)
   | ((with_reducible first | refine t_kE ?_ | refine t_kD ?_ | refine t_gS ?_ | refine t_kL ?_ | refine t_kLF ?_ ?_ | refine t_region fun K => ?_ | refine t_cond fun A B => ?_ | refine t_draw (by kernel_rfl) fun K => ?_); simp only [go_sem, geff, con17_f, con19_f, con20_f, con29_f, con17_c, con19_c, con20_c, con29_c, slK_sl, slK_cons, slK_emp, z1, z2, z3, s1, f1, f2, b0, b1, d1, d2, arrsOf_x, arrL_cons, arrL_nil, arrOf_agg, arrV_def, spV_def, frV_def, bools_length])
   | ((with_reducible refine kp_skip ?_ ?_); rfl) | simp only [thenQ, blockQ, scopeQ, Nat.reduceEqDiff, reduceIte] | (with_reducible first | refine And.intro ?_ ?_ | intro vr))
  all_goals try (intros; (try simp only [Bool.and_eq_true, Bool.or_eq_true, Bool.not_eq_true', decide_eq_true_eq, decide_eq_false_iff_not, beq_iff_eq, bne_iff_ne, ne_eq, inI64, List.length_append] at *) <;> omega)
  all_goals try exact okA_zz (by simp) (by omega)
  all_goals try (simp only [List.mem_cons, List.not_mem_nil, or_false] at vr; rcases vr with rfl | rfl <;> first | exact okA_zz (by simp) (by omega) | exact inI64_small (by omega))
  refine end_ret rfl ?_
  simp only [fin, go_sem]
  exact LeA.refl _
noncomputable def con15 : PCon Try.prog where
  f := 15
  c := fun
    | [] => some (True, .lit (.bool true))
    | _ => none
  ok := by
    intro args p r hc hp
    split at hc
    · cases hc; exact awake_pc
    · cases hc
  fk := fk15
theorem con15_f : con15.f = 15 := rfl
theorem con15_c  : con15.c [] = some (True, .lit (.bool true)) := rfl
theorem fewL_spec {l : List Arr} (h : fewL l = true) : l.length ≤ 4 ∧ ∀ a ∈ l, a.e.size ≤ 20 ∧ a.d.length ≤ 8 ∧ a.x.length ≤ 100 := by
  unfold fewL at h
  rw [Bool.and_eq_true, List.all_eq_true, decide_eq_true_eq] at h
  refine ⟨by omega, fun a ha => ?_⟩
  have := h.1 a ha
  unfold fewA at this
  simp only [Bool.and_eq_true, decide_eq_true_eq] at this
  omega
theorem fewL_ok {l : List Arr} (h : fewL l = true) : ∀ a ∈ l, okA a := fun a ha => by have := (fewL_spec h).2 a ha; exact ⟨by omega, by omega⟩
theorem frameG_len : ∀ (l : List Arr) (rs fr : List Int) (fd : List Bool), fr.length ≤ 1000000 → (∀ a ∈ l, okA a) → (frameG l rs fr fd).1.length ≤ 1000000 ∧ (frameG l rs fr fd).2.1.length ≤ fd.length + l.length
  | [], _, fr, fd, h, _ => by simp [frameG, h]
  | _ :: _, [], fr, fd, h, _ => by simp [frameG, h]
  | a :: l, r :: rs, fr, fd, h, hl => by
    have ih : ∀ fr', fr'.length ≤ 1000000 → ∀ b, (frameG l rs fr' (fd ++ [b])).1.length ≤ 1000000 ∧ (frameG l rs fr' (fd ++ [b])).2.1.length ≤ fd.length + (a :: l).length := fun fr' h' b => by
      have := frameG_len l rs fr' (fd ++ [b]) h' fun x hx => hl x (by simp [hx])
      simp only [List.length_append, List.length_cons, List.length_nil] at this ⊢
      omega
    have hs := splitS_len r (hl a (by simp))
    unfold frameG
    split
    · simp
    split
    · exact ih fr h false
    split
    · exact ih _ hs.1 true
    split
    · simp
    split
    · simp
    · exact ih fr h true
theorem frameS_len {l : List Arr} {rs : List Int} (hl : ∀ a ∈ l, okA a) : (frameS l rs).1.length ≤ 1000000 ∧ (frameS l rs).2.1.length ≤ l.length := by
  unfold frameS
  split
  · simp
  · simpa using frameG_len l rs [] [] (by simp) hl
theorem dself {α : Type} [DecidableEq α] (a : α) : decide (a = a) = true := decide_eq_true rfl
noncomputable def E18 : Env := envOf (P := Try.prog) zer (fun _ => false) (fun _ => false) [con15, con16, con17, con18, con19] []
theorem E18_ok : EnvOk Try.prog E18 := envOk zer_ok
set_option maxRecDepth 20000 in
set_option maxHeartbeats 2000000 in
theorem frame_law_pc {l : List Arr} {rs : List Int} (hm : l.length ≤ 9223372036854775807) (hr : ∀ r ∈ rs, inI64 r) : PC Try.prog 3 [.sl false 3 (arrs l), .sl false 1 (ints .i64 rs)] (.lit (.bool true)) := by
  by_cases hf : fewL l = true
  · by_cases h8 : rs.length > 8
    · have g8 : decide ((rs.length : Int) > 8) = true := decide_eq_true (by omega)
      refine pc_of E18_ok mixed (fun _ => [0, 1, 4, 5, 6, 7, 8, 9, 10, 11, 13, 21, 51, 53, 54, 55, 65]) Try.func3 rfl (by kernel_rfl) (Nat.le_of_ble_eq_true rfl) ?_
      simp only [initF_cons, initF_nil, Nat.reduceAdd]
      refine t_name fun KF => ?_
      unfold E18
      repeat' (first
       | (with_reducible first | refine t_seq fun K => ?_ | refine t_block ?_ | refine t_scope ?_ | refine t_label ?_ | refine t_skip ?_ | refine t_exit ?_ | refine t_ret ?_ | refine t_k ?_ | refine t_gF ?_ | exact kp_nil | exact Kp.refl _ | exact kp_to | refine kp_cons ?_ | refine kp_arr ?_ | refine kp_app ?_ | refine t_p ?_ | refine t_br (fun hc => ?_) fun hc => ?_)
       | ((with_reducible first | refine t_kE ?_ | refine t_kD ?_ | refine t_gS ?_ | refine t_kL ?_ | refine t_kLF ?_ ?_ | refine t_region fun K => ?_ | refine t_cond fun A B => ?_ | refine t_draw (by kernel_rfl) fun K => ?_); simp only [go_sem, geff, con15_f, con16_f, con17_f, con18_f, con19_f, con15_c, con16_c, arrsOf_sl, hf, g8, Bool.not_true])
       | ((with_reducible refine kp_skip ?_ ?_); rfl) | simp only [thenQ, blockQ, scopeQ, Nat.reduceEqDiff, reduceIte] | (with_reducible first | refine And.intro ?_ ?_ | intro vr))
      all_goals try (intros; (try simp only [Bool.and_eq_true, Bool.or_eq_true, Bool.not_eq_true', decide_eq_true_eq, decide_eq_false_iff_not, beq_iff_eq, bne_iff_ne, ne_eq, inI64, List.length_append] at *) <;> omega)
      refine end_ret rfl ?_
      simp only [fin, go_sem]
      exact LeA.refl _
    · have g8 : decide ((rs.length : Int) > 8) = false := decide_eq_false (by omega)
      have hlen := frameS_len (rs := rs) (fewL_ok hf)
      have h4 := (fewL_spec hf).1
      generalize hF : frameS l rs = p at hlen
      obtain ⟨fr, fd, er⟩ := p
      simp only at hlen
      have d1 := dself fr
      refine pc_of E18_ok mixed (fun _ => [0, 1, 4, 5, 6, 7, 8, 9, 10, 11, 13, 21, 51, 53, 54, 55, 65]) Try.func3 rfl (by kernel_rfl) (Nat.le_of_ble_eq_true rfl) ?_
      simp only [initF_cons, initF_nil, Nat.reduceAdd]
      refine t_name fun KF => ?_
      unfold E18
      repeat' (first
       | (with_reducible first | refine t_seq fun K => ?_ | refine t_block ?_ | refine t_scope ?_ | refine t_label ?_ | refine t_skip ?_ | refine t_exit ?_ | refine t_ret ?_ | refine t_k ?_ | refine t_gF ?_ | exact kp_nil | exact Kp.refl _ | exact kp_to | refine kp_cons ?_ | refine kp_arr ?_ | refine kp_app ?_ | refine t_p ?_ | refine t_br (fun hc => ?_) fun hc => ?_)
       | ((with_reducible first | refine t_kE ?_ | refine t_kD ?_ | refine t_gS ?_ | refine t_kL ?_ | refine t_kLF ?_ ?_ | refine t_region fun K => ?_ | refine t_cond fun A B => ?_ | refine t_draw (by kernel_rfl) fun K => ?_); simp only [go_sem, geff, con15_f, con16_f, con17_f, con18_f, con19_f, con15_c, con16_c, con17_c, con18_c, con19_c, arrsOf_sl, slK_sl, hf, g8, hF, frV_def, d1, bne_self_eq_false, bools_length, Bool.not_true])
       | ((with_reducible refine kp_skip ?_ ?_); rfl) | simp only [thenQ, blockQ, scopeQ, Nat.reduceEqDiff, reduceIte] | (with_reducible first | refine And.intro ?_ ?_ | intro vr))
      all_goals try (intros; (try simp only [Bool.and_eq_true, Bool.or_eq_true, Bool.not_eq_true', decide_eq_true_eq, decide_eq_false_iff_not, beq_iff_eq, bne_iff_ne, ne_eq, inI64, List.length_append] at *) <;> omega)
      all_goals try exact fewL_ok hf _ (by assumption)
      all_goals try exact hr _ (by assumption)
      refine t_loop (ι := { i : Nat // i ≤ fd.length }) (fun i => ⟨upd (upd (upd (upd topF 54 (.lit (.int .i64 i.1))) 53 (.lit (.int .i64 fd.length))) 9 (.sl false 1 (bools fd))) 6 (.sl false 1 (bools fd)), []⟩) (fun i => fd.length - i.1) ⟨0, by omega⟩ ?_ ?_
      · skip
        (refine Le.frame ?_; repeat' (first | exact leF_top _ | (with_reducible refine leF_sl ?_ ?_) | (refine leF_upd (LeR.of_eq ?_) ?_))) <;> (try (simp only [go_sem]; try rfl))
      · rintro ⟨i, hi⟩ K0
        rcases Nat.lt_or_ge i fd.length with hc | hc
        · have g1 : decide ((i : Int) < (fd.length : Int)) = true := decide_eq_true (by omega)
          have g2 := bools_getD fd i hc
          have g3 := bools_length fd
          repeat' (first
           | (with_reducible first | refine t_seq fun K => ?_ | refine t_block ?_ | refine t_scope ?_ | refine t_label ?_ | refine t_skip ?_ | refine t_exit ?_ | refine t_ret ?_ | refine t_k ?_ | refine t_gF ?_ | exact kp_nil | exact Kp.refl _ | exact kp_to | refine kp_cons ?_ | refine kp_arr ?_ | refine kp_app ?_ | refine t_p ?_ | refine t_br (fun hc => ?_) fun hc => ?_)
           | ((with_reducible first | refine t_kE ?_ | refine t_kD ?_ | refine t_gS ?_ | refine t_kL ?_ | refine t_kLF ?_ ?_ | refine t_region fun K => ?_ | refine t_cond fun A B => ?_ | refine t_draw (by kernel_rfl) fun K => ?_); simp only [go_sem, geff, con15_f, con16_f, con17_f, con18_f, con19_f, g1, g2, g3, Int.toNat_natCast, bne_self_eq_false])
           | ((with_reducible refine kp_skip ?_ ?_); rfl) | simp only [thenQ, blockQ, scopeQ, Nat.reduceEqDiff, reduceIte] | (with_reducible first | refine And.intro ?_ ?_ | intro vr))
          all_goals try (intros; (try simp only [Bool.and_eq_true, Bool.or_eq_true, Bool.not_eq_true', decide_eq_true_eq, decide_eq_false_iff_not, beq_iff_eq, bne_iff_ne, ne_eq, inI64, List.length_append] at *) <;> omega)
          refine ⟨⟨i + 1, by omega⟩, by simp only; omega, ?_⟩
          (refine Le.frame ?_; repeat' (first | exact leF_top _ | (with_reducible refine leF_sl ?_ ?_) | (refine leF_upd (LeR.of_eq ?_) ?_))) <;> (try (simp only [go_sem]; try rfl))
        · have g1 : decide ((i : Int) < (fd.length : Int)) = false := decide_eq_false (by omega)
          repeat' (first
           | (with_reducible first | refine t_seq fun K => ?_ | refine t_block ?_ | refine t_scope ?_ | refine t_label ?_ | refine t_skip ?_ | refine t_exit ?_ | refine t_ret ?_ | refine t_k ?_ | refine t_gF ?_ | exact kp_nil | exact Kp.refl _ | exact kp_to | refine kp_cons ?_ | refine kp_arr ?_ | refine kp_app ?_ | refine t_p ?_ | refine t_br (fun hc => ?_) fun hc => ?_)
           | ((with_reducible first | refine t_kE ?_ | refine t_kD ?_ | refine t_gS ?_ | refine t_kL ?_ | refine t_kLF ?_ ?_ | refine t_region fun K => ?_ | refine t_cond fun A B => ?_ | refine t_draw (by kernel_rfl) fun K => ?_); simp only [go_sem, geff, con15_f, con16_f, con17_f, con18_f, con19_f, g1])
           | ((with_reducible refine kp_skip ?_ ?_); rfl) | simp only [thenQ, blockQ, scopeQ, Nat.reduceEqDiff, reduceIte] | (with_reducible first | refine And.intro ?_ ?_ | intro vr))
          refine end_ret rfl ?_
          simp only [fin, go_sem]
          exact LeA.refl _
  · have hf' : fewL l = false := by simpa using hf
    refine pc_of E18_ok mixed (fun _ => [0, 1, 4, 5, 6, 7, 8, 9, 10, 11, 13, 21, 51, 53, 54, 55, 65]) Try.func3 rfl (by kernel_rfl) (Nat.le_of_ble_eq_true rfl) ?_
    simp only [initF_cons, initF_nil, Nat.reduceAdd]
    refine t_name fun KF => ?_
    unfold E18
    repeat' (first
     | (with_reducible first | refine t_seq fun K => ?_ | refine t_block ?_ | refine t_scope ?_ | refine t_label ?_ | refine t_skip ?_ | refine t_exit ?_ | refine t_ret ?_ | refine t_k ?_ | refine t_gF ?_ | exact kp_nil | exact Kp.refl _ | exact kp_to | refine kp_cons ?_ | refine kp_arr ?_ | refine kp_app ?_ | refine t_p ?_ | refine t_br (fun hc => ?_) fun hc => ?_)
     | ((with_reducible first | refine t_kE ?_ | refine t_kD ?_ | refine t_gS ?_ | refine t_kL ?_ | refine t_kLF ?_ ?_ | refine t_region fun K => ?_ | refine t_cond fun A B => ?_ | refine t_draw (by kernel_rfl) fun K => ?_); simp only [go_sem, geff, con15_f, con16_f, con17_f, con18_f, con19_f, con15_c, con16_c, arrsOf_sl, hf', Bool.not_false, Bool.not_true])
     | ((with_reducible refine kp_skip ?_ ?_); rfl) | simp only [thenQ, blockQ, scopeQ, Nat.reduceEqDiff, reduceIte] | (with_reducible first | refine And.intro ?_ ?_ | intro vr))
    all_goals try (intros; (try simp only [Bool.and_eq_true, Bool.or_eq_true, Bool.not_eq_true', decide_eq_true_eq, decide_eq_false_iff_not, beq_iff_eq, bne_iff_ne, ne_eq, inI64, List.length_append] at *) <;> omega)
    refine end_ret rfl ?_
    simp only [fin, go_sem]
    exact LeA.refl _
theorem frame_law : ∀ xs, ShL Try.prog Try.f3.params.toList xs → PC Try.prog 3 xs (.lit (.bool true))
  | [x, y], h => by
    obtain ⟨l, rfl, hl, _⟩ := shv_arrs h.1
    obtain ⟨rs, rfl, _, hr⟩ := shv_ints u23 u3 sz3 h.2.1
    exact frame_law_pc (by simpa [maxLen] using hl) fun n hn => wf_i64 (hr n hn)
  | [], h => h.elim
  | [_], h => h.2.elim
  | _ :: _ :: _ :: _, h => h.2.2.elim
end Go.Proofs.Ytcjjakhmpffopaa

/- Products of dimensions, places, cells: plain facts. -/
namespace Go.Fw
theorem kp_skip {D : Nat → Bool} {x y : AObj} {l l' : List AObj} (h0 : D 0 = false) (h : Kp (fun i => D (i + 1)) l l') : Kp D (x :: l) (y :: l') := fun o t cs d e => by
  cases o with
  | zero => rw [h0] at d; cases d
  | succ o => exact h o t cs d e
end Go.Fw
namespace Go.Proofs.Ytcjjakhmpffopaa
open Go Go.Fw

def prI : List Int → Int
  | [] => 1
  | d :: t => d * prI t
def dimOk (l : List Int) : Prop := ∀ x ∈ l, 0 ≤ x ∧ x ≤ 4096
theorem prI_app : ∀ l m : List Int, prI (l ++ m) = prI l * prI m
  | [], m => by simp [prI]
  | d :: t, m => by simp [prI, prI_app t m, Int.mul_assoc]
theorem prI_nonneg : ∀ {l : List Int}, dimOk l → 0 ≤ prI l
  | [], _ => by decide
  | d :: t, h => Int.mul_nonneg (h d (by simp)).1 (prI_nonneg fun x hx => h x (by simp [hx]))
theorem prI_pos : ∀ {l : List Int}, (∀ x ∈ l, 1 ≤ x) → 1 ≤ prI l
  | [], _ => by decide
  | d :: t, h => by
    have h1 := h d (by simp)
    have h2 := prI_pos (l := t) fun x hx => h x (by simp [hx])
    have := Int.mul_le_mul h1 h2 (by omega) (by omega)
    simpa [prI] using this
theorem prI_zero : ∀ {l : List Int}, (l.any fun d => 0 == d) = true → prI l = 0
  | [], h => by simp at h
  | d :: t, h => by
    rw [List.any_cons, Bool.or_eq_true] at h
    rcases h with h | h
    · rw [beq_iff_eq] at h; rw [prI, ← h, Int.zero_mul]
    · rw [prI, prI_zero h, Int.mul_zero]
theorem prI_pow : ∀ {l : List Int}, dimOk l → prI l ≤ 4096 ^ l.length
  | [], _ => by decide
  | d :: t, h => by
    have h1 := h d (by simp)
    have ht : dimOk t := fun x hx => h x (by simp [hx])
    have h2 := prI_pow ht
    have h0 := prI_nonneg ht
    have := Int.mul_le_mul h1.2 h2 h0 (by omega)
    rw [prI, List.length_cons, Int.pow_succ, Int.mul_comm _ 4096]
    exact this
theorem prodS_eq : ∀ {l : List Int} {m n : Int}, prodS l m = (n, 0) → n = m * prI l
  | [], m, n, h => by simp only [prodS, Prod.mk.injEq] at h; rw [prI]; omega
  | d :: t, m, n, h => by
    unfold prodS at h
    split at h
    · cases h
    · rw [prI, ← Int.mul_assoc]; exact prodS_eq h
theorem prodS_ok : ∀ {l : List Int} {m : Int}, (∀ x ∈ l, 1 ≤ x) → 1 ≤ m → m * prI l ≤ 4096 → prodS l m = (m * prI l, 0)
  | [], m, _, _, _ => by simp [prodS, prI]
  | d :: t, m, h, hm, hb => by
    have h1 := h d (by simp)
    have ht : ∀ x ∈ t, 1 ≤ x := fun x hx => h x (by simp [hx])
    have hp := prI_pos ht
    rw [prI, ← Int.mul_assoc] at hb
    have hmd := Int.mul_le_mul hm h1 (by omega) (by omega)
    have : m * d * 1 ≤ m * d * prI t := Int.mul_le_mul_of_nonneg_left hp (by omega)
    unfold prodS
    rw [if_neg (by omega), prI, ← Int.mul_assoc]
    exact prodS_ok ht (by omega) hb
theorem not_any_zero {l : List Int} (hd : dimOk l) (h : ¬ (l.any fun d => 0 == d) = true) : ∀ x ∈ l, 1 ≤ x := by
  intro x hx
  have : ¬ x = 0 := fun e => h (List.any_eq_true.2 ⟨x, hx, by rw [e]; rfl⟩)
  have := hd x hx
  omega
theorem sizeS_ok {d : List Int} {n : Int} (h : sizeS d = (n, 0)) : d.length ≤ 6 ∧ dimOk d ∧ n = prI d ∧ n ≤ 4096 := by
  have hb := sizeS_bd d
  rw [h] at hb
  unfold sizeS at h
  split at h
  · cases h
  rename_i h6
  split at h
  · cases h
  rename_i hbad
  have hd : dimOk d := bad_no hbad
  split at h
  · rename_i h0
    cases h
    exact ⟨by omega, hd, (prI_zero h0).symm, by decide⟩
  · exact ⟨by omega, hd, by rw [prodS_eq h, Int.one_mul], hb.2⟩
/-- A part of dimensions whose size is right has a size. -/
theorem sizeS_part {f c : List Int} {n : Int} (h : sizeS (f ++ c) = (n, 0)) (hf : ∀ x ∈ f, 1 ≤ x) : sizeS c = (prI c, 0) := by
  obtain ⟨h1, h2, h3, h4⟩ := sizeS_ok h
  have hc : dimOk c := fun x hx => h2 x (by simp [hx])
  unfold sizeS
  rw [if_neg (by simp only [List.length_append] at h1; omega)]
  rw [if_neg (by
    intro hb
    obtain ⟨x, hx, hb⟩ := List.any_eq_true.1 hb
    have := hc x hx
    unfold badD at hb
    rw [Bool.or_eq_true, decide_eq_true_eq, decide_eq_true_eq] at hb
    omega)]
  split
  · rename_i h0; rw [prI_zero h0]
  · rename_i h0
    have hp := prI_pos (not_any_zero hc h0)
    have hq := prI_pos hf
    have : 1 * prI c ≤ prI f * prI c := Int.mul_le_mul_of_nonneg_right hq (by omega)
    rw [← prI_app, ← h3] at this
    rw [prodS_ok (not_any_zero hc h0) (by decide) (by omega), Int.one_mul]
theorem pow_bd : ∀ n : Nat, n ≤ 5 → (4096 : Int) ^ n ≤ 1152921504606846976 := by decide
theorem prI_bd {l : List Int} (hd : dimOk l) (h6 : l.length ≤ 6) (h : l.length = 6 → prI l ≤ 4096) : 0 ≤ prI l ∧ prI l ≤ 1152921504606846976 := by
  refine ⟨prI_nonneg hd, ?_⟩
  have hp := prI_pow hd
  by_cases e : l.length = 6
  · have := h e; omega
  · have := pow_bd l.length (by omega); omega
/-- A part of right dimensions that lies side by side. -/
theorem part_bd {d : List Int} {n : Int} (h : sizeS d = (n, 0)) (i j : Nat) : 0 ≤ prI ((d.drop i).take j) ∧ prI ((d.drop i).take j) ≤ 1152921504606846976 := by
  obtain ⟨h1, h2, h3, h4⟩ := sizeS_ok h
  refine prI_bd (fun x hx => h2 x (List.mem_of_mem_drop (List.mem_of_mem_take hx))) (by simp only [List.length_take, List.length_drop]; omega) fun e => ?_
  simp only [List.length_take, List.length_drop] at e
  have : (d.drop i).take j = d := by
    have hi : i = 0 := by omega
    subst hi
    rw [List.drop_zero, List.take_of_length_le (by omega)]
  rw [this, ← h3]
  exact h4
/-- The number of a place in a frame. -/
def atS : List Int → List Int → Int → Option Int
  | d :: f, n :: o, k => if n < 0 ∨ n ≥ d then none else atS f o (k * d + n)
  | _, _, k => some k
theorem prI_take_succ {f : List Int} {i : Nat} (h : i < f.length) : prI (f.take (i + 1)) = prI (f.take i) * f.getD i 0 := by
  rw [List.take_add_one, prI_app]
  congr 1
  rw [List.getD_eq_getElem?_getD, List.getElem?_eq_getElem h]
  simp [prI]
theorem at_step {k p d n : Int} (hk : 0 ≤ k) (hk' : k < p) (hn : 0 ≤ n) (hn' : n < d) : 0 ≤ k * d ∧ 0 ≤ k * d + n ∧ k * d + n < p * d := by
  have h1 : 0 ≤ k * d := Int.mul_nonneg hk (by omega)
  have h2 : (k + 1) * d ≤ p * d := Int.mul_le_mul_of_nonneg_right (by omega) (by omega)
  rw [Int.add_mul, Int.one_mul] at h2
  exact ⟨h1, by omega, by omega⟩
/-- The cell with an own index, with an error. -/
def cellS (a : Arr) (r : Int) (own : List Int) : Arr × Int :=
  if (splitS a r).2.2 ≠ 0 then (nilA, (splitS a r).2.2)
  else if own.length ≠ (splitS a r).1.length then (nilA, 13)
  else match atS (splitS a r).1 own 0 with
    | none => (nilA, 2)
    | some k => (⟨a.e, (splitS a r).2.1, (a.x.drop (k * prI (splitS a r).2.1).toNat).take (prI (splitS a r).2.1).toNat⟩, 0)
theorem ofE_inv {a : Arr} (h : ofE a = 0) : tyOk a.e = true ∧ sizeS a.d = ((a.x.length : Int), 0) ∧ bad a = false := by
  have ht : tyOk a.e = true := by
    cases e : tyOk a.e with
    | true => rfl
    | false => rw [ofE_ty e] at h; cases h
  have hs : (sizeS a.d).2 = 0 := by
    by_cases e : (sizeS a.d).2 = 0
    · exact e
    · rw [ofE_sz ht e] at h; exact absurd h e
  have hl : (a.x.length : Int) = (sizeS a.d).1 := by
    by_cases e : (a.x.length : Int) = (sizeS a.d).1
    · exact e
    · rw [ofE_len ht hs e] at h; cases h
  have hb : bad a = false := by
    cases e : bad a with
    | false => rfl
    | true => rw [ofE_el ht hs hl, if_pos e] at h; cases h
  exact ⟨ht, Prod.ext hl.symm hs, hb⟩
theorem ofE_zero {a : Arr} (ht : tyOk a.e = true) (hs : sizeS a.d = ((a.x.length : Int), 0)) (hb : bad a = false) : ofE a = 0 := by
  rw [ofE_el ht (by rw [hs]) (by rw [hs]), if_neg (by rw [hb]; decide)]
theorem splitS_inv {a : Arr} {r : Int} {f c : List Int} (h : splitS a r = (f, c, 0)) : ofE a = 0 ∧ a.d = f ++ c ∧ 0 ≤ r ∧ r = c.length := by
  unfold splitS at h
  split at h
  · cases h
  · rename_i h0
    split at h
    · cases h
    · rename_i h1
      cases h
      simp only [ne_eq, Decidable.not_not] at h0
      refine ⟨h0, (List.take_append_drop _ _).symm, by omega, ?_⟩
      simp only [List.length_drop]
      omega
theorem any_part {α : Type} {p : α → Bool} {l : List α} (i j : Nat) (h : l.any p = false) : ((l.drop i).take j).any p = false := by
  rw [List.any_eq_false] at h ⊢
  exact fun x hx => h x (List.mem_of_mem_drop (List.mem_of_mem_take hx))
theorem cell_ok {a : Arr} {f c : List Int} {k : Int} (h0 : ofE a = 0) (hd : a.d = f ++ c) (hf : ∀ x ∈ f, 1 ≤ x) (hk : 0 ≤ k) (hk' : k < prI f) :
    sizeS c = (prI c, 0) ∧ 0 ≤ prI c ∧ 0 ≤ k * prI c ∧ k * prI c + prI c ≤ a.x.length ∧ a.x.length ≤ 4096 ∧ ofE ⟨a.e, c, (a.x.drop (k * prI c).toNat).take (prI c).toNat⟩ = 0 := by
  obtain ⟨ht, hs, hb⟩ := ofE_inv h0
  rw [hd] at hs
  obtain ⟨h1, h2, h3, h4⟩ := sizeS_ok hs
  have hsz := sizeS_part hs hf
  have hc : 0 ≤ prI c := prI_nonneg fun x hx => h2 x (by simp [hx])
  have hm : (k + 1) * prI c ≤ prI f * prI c := Int.mul_le_mul_of_nonneg_right (by omega) hc
  rw [← prI_app, ← h3, Int.add_mul, Int.one_mul] at hm
  have hkc : 0 ≤ k * prI c := Int.mul_nonneg hk hc
  refine ⟨hsz, hc, hkc, hm, by omega, ofE_zero ht ?_ (any_part _ _ hb)⟩
  rw [hsz]
  congr 1
  simp only [List.length_take, List.length_drop]
  omega
end Go.Proofs.Ytcjjakhmpffopaa

/- Cells. -/
namespace Go.Proofs.Ytcjjakhmpffopaa
open Go Go.Fw

structure Lc (f own : List Int) (G : Option Int) where
  i : Nat
  k : Int
  hi : i ≤ own.length
  hk : 0 ≤ k
  hk' : k < prI (f.take i)
  hp : ∀ x ∈ f.take i, 1 ≤ x
  hF : atS (f.drop i) (own.drop i) k = G
theorem take_pos {f : List Int} {i : Nat} (h : i < f.length) (hp : ∀ x ∈ f.take i, 1 ≤ x) (h1 : 1 ≤ f.getD i 0) : ∀ x ∈ f.take (i + 1), 1 ≤ x := by
  intro x hx
  rw [List.take_add_one, List.mem_append] at hx
  rcases hx with hx | hx
  · exact hp x hx
  · rw [List.getElem?_eq_getElem h] at hx
    simp only [Option.toList_some, List.mem_singleton] at hx
    rw [List.getD_eq_getElem?_getD, List.getElem?_eq_getElem h] at h1
    rw [hx]; simpa using h1
noncomputable def E19 : Env := envOf (P := Try.prog) zer (fun _ => false) (fun _ => false) [con20, con61] []
theorem E19_ok : EnvOk Try.prog E19 := envOk zer_ok
set_option maxRecDepth 20000 in
set_option maxHeartbeats 4000000 in
theorem cell_pc {a : Arr} {r : Int} {own : List Int} (ha : okA a) (hr : inI64 r) (hl : own.length ≤ 1000000) : PC Try.prog 22 [arrV a, .lit (.int .i64 r), .sl false 1 (ints .i64 own)] (aeV (cellS a r own)) := by
  unfold cellS
  have hsl := splitS_len r ha
  have ha1 := ha.1
  have ha2 := ha.2
  generalize hS : splitS a r = s at hsl
  obtain ⟨f, c, er⟩ := s
  simp only at hsl
  by_cases e0 : er = 0
  · subst e0
    obtain ⟨h0, hd, hr0, hrl⟩ := splitS_inv hS
    rw [if_neg (by simp)]
    by_cases hn : own.length = f.length
    · have n1 : ((own.length : Int) != (f.length : Int)) = false := by rw [bne_eq_false_iff_eq]; omega
      rw [if_neg (by simpa using hn)]
      simp only
      have hsz := (ofE_inv h0).2.1
      have hbd : ∀ i, i ≤ f.length → 0 ≤ prI (f.take i) ∧ prI (f.take i) ≤ 1152921504606846976 := fun i hi => by
        have := part_bd hsz 0 i
        rwa [hd, List.drop_zero, List.take_append_of_le_length hi] at this
      generalize hG : atS f own 0 = G
      refine pc_of E19_ok mixed (fun _ => [0, 1, 2, 3, 6, 7, 8, 9, 10, 11, 12, 13, 14, 16, 25, 32, 34, 35, 36, 37, 50, 61, 62, 63, 64]) Try.func22 rfl (by kernel_rfl) (Nat.le_of_ble_eq_true rfl) ?_
      simp only [initF_cons, initF_nil, Nat.reduceAdd]
      refine t_name fun KF => ?_
      unfold E19
      repeat' (first
       | (with_reducible first | refine t_seq fun K => ?_ | refine t_block ?_ | refine t_scope ?_ | refine t_label ?_ | refine t_skip ?_ | refine t_exit ?_ | refine t_ret ?_ | refine t_k ?_ | refine t_gF ?_ | exact kp_nil | exact Kp.refl _ | exact kp_to | refine kp_cons ?_ | refine kp_arr ?_ | refine kp_app ?_ | refine t_p ?_ | refine t_br (fun hc => ?_) fun hc => ?_)
       | ((with_reducible first | refine t_kE ?_ | refine t_kD ?_ | refine t_gS ?_ | refine t_kL ?_ | refine t_kLF ?_ ?_ | refine t_region fun K => ?_ | refine t_cond fun A B => ?_ | refine t_drawE (id := 20) (fun i => i == 0) [(0, 1), (1, 1), (2, 1), (3, 1), (4, 1), (5, 1), (6, 1), (7, 1), (8, 1), (9, 1), (10, 1), (11, 1), (12, 1), (13, 0), (14, 1), (15, 0), (16, 1)] (by kernel_rfl) fun K => ?_ | refine t_draw (by kernel_rfl) fun K => ?_); simp only [go_sem, geff, con20_f, con20_c, con61_f, con61_c, arrV_def, arrOf_agg, slK_sl, hS, spV_def, szV_def, aeV_def, n1, bne_self_eq_false])
       | ((with_reducible refine kp_skip ?_ ?_); rfl) | simp only [thenQ, blockQ, scopeQ, Nat.reduceEqDiff, reduceIte] | (with_reducible first | refine And.intro ?_ ?_ | intro vr))
      all_goals try (intros; (try simp only [Bool.and_eq_true, Bool.or_eq_true, Bool.not_eq_true', decide_eq_true_eq, decide_eq_false_iff_not, beq_iff_eq, bne_iff_ne, ne_eq, inI64, List.length_append] at *) <;> omega)
      all_goals try exact ha
      all_goals try exact hr
      refine t_loop (ι := Lc f own G) (fun i => ⟨upd (upd (upd (upd (upd (upd (upd (upd (upd topF 36 (.lit (.int .i64 i.i))) 35 (.lit (.int .i64 own.length))) 34 (.sl false 1 (ints .i64 own))) 12 (.lit (.int .i64 1))) 11 (.lit (.int .i64 i.k))) 9 (.sl false 1 (ints .i64 c))) 8 (.sl false 1 (ints .i64 f))) 6 (.ref 1 0)) 3 (.ref 0 0), [AObj.box 33 [.lit (.string a.e), .sl false 1 (ints .i64 a.d), .sl false 1 (ints .i64 a.x)], AObj.box 33 [AV.lit (Value.string ByteArray.empty), AV.sl true 1 [], AV.sl true 1 []]]⟩) (fun i => own.length - i.i) ⟨0, 0, by omega, by omega, by simp [prI], by simp, hG⟩ ?_ ?_
      · skip
        (refine Le.frame ?_; repeat' (first | exact leF_top _ | (with_reducible refine leF_sl ?_ ?_) | (refine leF_upd (LeR.of_eq ?_) ?_))) <;> (try (simp only [go_sem]; try rfl))
      · rintro ⟨i, k, hi, hk, hk', hp, hF⟩ K0
        rcases Nat.lt_or_ge i own.length with hc | hc
        · have hcf : i < f.length := by omega
          have g1 : decide ((i : Int) < (own.length : Int)) = true := decide_eq_true (by omega)
          have g2 := ints_getD .i64 own i hc
          have g3 := ints_getD .i64 f i hcf
          have hnx := prI_take_succ hcf
          have hb1 := hbd (i + 1) (by omega)
          have htp := take_pos hcf hp
          rw [drop_getD 0 hcf, drop_getD 0 hc, atS] at hF
          generalize own.getD i 0 = n at g2 hF
          generalize f.getD i 0 = d at g3 hF hnx htp
          by_cases n0 : n < 0
          · have n0' : decide (n < 0) = true := decide_eq_true n0
            rw [if_pos (.inl n0)] at hF
            subst hF
            repeat' (first
             | (with_reducible first | refine t_seq fun K => ?_ | refine t_block ?_ | refine t_scope ?_ | refine t_label ?_ | refine t_skip ?_ | refine t_exit ?_ | refine t_ret ?_ | refine t_k ?_ | refine t_gF ?_ | exact kp_nil | exact Kp.refl _ | exact kp_to | refine kp_cons ?_ | refine kp_arr ?_ | refine kp_app ?_ | refine t_p ?_ | refine t_br (fun hc => ?_) fun hc => ?_)
             | ((with_reducible first | refine t_kE ?_ | refine t_kD ?_ | refine t_gS ?_ | refine t_kL ?_ | refine t_kLF ?_ ?_ | refine t_region fun K => ?_ | refine t_cond fun A B => ?_ | refine t_drawE (id := 20) (fun i => i == 0) [(0, 1), (1, 1), (2, 1), (3, 1), (4, 1), (5, 1), (6, 1), (7, 1), (8, 1), (9, 1), (10, 1), (11, 1), (12, 1), (13, 0), (14, 1), (15, 0), (16, 1)] (by kernel_rfl) fun K => ?_ | refine t_draw (by kernel_rfl) fun K => ?_); simp only [go_sem, geff, con20_f, con20_c, con61_f, con61_c, g1, g2, g3, n0', Int.toNat_natCast])
             | ((with_reducible refine kp_skip ?_ ?_); rfl) | simp only [thenQ, blockQ, scopeQ, Nat.reduceEqDiff, reduceIte] | (with_reducible first | refine And.intro ?_ ?_ | intro vr))
            all_goals try (intros; (try simp only [Bool.and_eq_true, Bool.or_eq_true, Bool.not_eq_true', decide_eq_true_eq, decide_eq_false_iff_not, beq_iff_eq, bne_iff_ne, ne_eq, inI64, List.length_append] at *) <;> omega)
            refine end_ret rfl ?_
            simp only [fin, go_sem]
            exact nilAe_le
          · have n0' : decide (n < 0) = false := decide_eq_false n0
            by_cases n2 : n ≥ d
            · have n2' : decide (n ≥ d) = true := decide_eq_true n2
              rw [if_pos (.inr n2)] at hF
              subst hF
              repeat' (first
               | (with_reducible first | refine t_seq fun K => ?_ | refine t_block ?_ | refine t_scope ?_ | refine t_label ?_ | refine t_skip ?_ | refine t_exit ?_ | refine t_ret ?_ | refine t_k ?_ | refine t_gF ?_ | exact kp_nil | exact Kp.refl _ | exact kp_to | refine kp_cons ?_ | refine kp_arr ?_ | refine kp_app ?_ | refine t_p ?_ | refine t_br (fun hc => ?_) fun hc => ?_)
               | ((with_reducible first | refine t_kE ?_ | refine t_kD ?_ | refine t_gS ?_ | refine t_kL ?_ | refine t_kLF ?_ ?_ | refine t_region fun K => ?_ | refine t_cond fun A B => ?_ | refine t_drawE (id := 20) (fun i => i == 0) [(0, 1), (1, 1), (2, 1), (3, 1), (4, 1), (5, 1), (6, 1), (7, 1), (8, 1), (9, 1), (10, 1), (11, 1), (12, 1), (13, 0), (14, 1), (15, 0), (16, 1)] (by kernel_rfl) fun K => ?_ | refine t_draw (by kernel_rfl) fun K => ?_); simp only [go_sem, geff, con20_f, con20_c, con61_f, con61_c, g1, g2, g3, n0', n2', Int.toNat_natCast])
               | ((with_reducible refine kp_skip ?_ ?_); rfl) | simp only [thenQ, blockQ, scopeQ, Nat.reduceEqDiff, reduceIte] | (with_reducible first | refine And.intro ?_ ?_ | intro vr))
              all_goals try (intros; (try simp only [Bool.and_eq_true, Bool.or_eq_true, Bool.not_eq_true', decide_eq_true_eq, decide_eq_false_iff_not, beq_iff_eq, bne_iff_ne, ne_eq, inI64, List.length_append] at *) <;> omega)
              refine end_ret rfl ?_
              simp only [fin, go_sem]
              exact nilAe_le
            · have n2' : decide (n ≥ d) = false := decide_eq_false n2
              rw [if_neg (by omega)] at hF
              have hst := at_step hk hk' (show 0 ≤ n by omega) (show n < d by omega)
              rw [hnx] at hb1
              generalize prI (f.take i) * d = pd at hb1 hst hnx
              repeat' (first
               | (with_reducible first | refine t_seq fun K => ?_ | refine t_block ?_ | refine t_scope ?_ | refine t_label ?_ | refine t_skip ?_ | refine t_exit ?_ | refine t_ret ?_ | refine t_k ?_ | refine t_gF ?_ | exact kp_nil | exact Kp.refl _ | exact kp_to | refine kp_cons ?_ | refine kp_arr ?_ | refine kp_app ?_ | refine t_p ?_ | refine t_br (fun hc => ?_) fun hc => ?_)
               | ((with_reducible first | refine t_kE ?_ | refine t_kD ?_ | refine t_gS ?_ | refine t_kL ?_ | refine t_kLF ?_ ?_ | refine t_region fun K => ?_ | refine t_cond fun A B => ?_ | refine t_drawE (id := 20) (fun i => i == 0) [(0, 1), (1, 1), (2, 1), (3, 1), (4, 1), (5, 1), (6, 1), (7, 1), (8, 1), (9, 1), (10, 1), (11, 1), (12, 1), (13, 0), (14, 1), (15, 0), (16, 1)] (by kernel_rfl) fun K => ?_ | refine t_draw (by kernel_rfl) fun K => ?_); simp only [go_sem, geff, con20_f, con20_c, con61_f, con61_c, g1, g2, g3, n0', n2', Int.toNat_natCast])
               | ((with_reducible refine kp_skip ?_ ?_); rfl) | simp only [thenQ, blockQ, scopeQ, Nat.reduceEqDiff, reduceIte] | (with_reducible first | refine And.intro ?_ ?_ | intro vr))
              all_goals try (intros; (try simp only [Bool.and_eq_true, Bool.or_eq_true, Bool.not_eq_true', decide_eq_true_eq, decide_eq_false_iff_not, beq_iff_eq, bne_iff_ne, ne_eq, inI64, List.length_append] at *) <;> omega)
              refine ⟨⟨i + 1, k * d + n, by omega, by omega, by omega, htp (by omega), hF⟩, by simp only; omega, ?_⟩
              (refine Le.frame ?_; repeat' (first | exact leF_top _ | (with_reducible refine leF_sl ?_ ?_) | (refine leF_upd (LeR.of_eq ?_) ?_))) <;> (try (simp only [go_sem]; try rfl))
        · have g1 : decide ((i : Int) < (own.length : Int)) = false := decide_eq_false (by omega)
          rw [List.drop_eq_nil_of_le hc, List.drop_eq_nil_of_le (by omega), atS] at hF
          · subst hF
            rw [List.take_of_length_le (by omega)] at hk' hp
            obtain ⟨hcs, hc0, hkc, hkl, hxl, hO⟩ := cell_ok h0 hd hp hk hk'
            replace hO := ofS_ok hO
            have hq : (a.x.take (k * prI c + prI c).toNat).drop (k * prI c).toNat = (a.x.drop (k * prI c).toNat).take (prI c).toNat := by
              rw [List.drop_take]; congr 1; omega
            simp only
            have hX : ∀ j, j ≤ c.length → 0 ≤ prI (c.take j) ∧ prI (c.take j) ≤ 1152921504606846976 := fun j hj => by
              have := part_bd hsz f.length j
              rwa [hd, List.drop_left] at this
            repeat' (first
             | (with_reducible first | refine t_seq fun K => ?_ | refine t_block ?_ | refine t_scope ?_ | refine t_label ?_ | refine t_skip ?_ | refine t_exit ?_ | refine t_ret ?_ | refine t_k ?_ | refine t_gF ?_ | exact kp_nil | exact Kp.refl _ | exact kp_to | refine kp_cons ?_ | refine kp_arr ?_ | refine kp_app ?_ | refine t_p ?_ | refine t_br (fun hc => ?_) fun hc => ?_)
             | ((with_reducible first | refine t_kE ?_ | refine t_kD ?_ | refine t_gS ?_ | refine t_kL ?_ | refine t_kLF ?_ ?_ | refine t_region fun K => ?_ | refine t_cond fun A B => ?_ | refine t_drawE (id := 20) (fun i => i == 0) [(0, 1), (1, 1), (2, 1), (3, 1), (4, 1), (5, 1), (6, 1), (7, 1), (8, 1), (9, 1), (10, 1), (11, 1), (12, 1), (13, 0), (14, 1), (15, 0), (16, 1)] (by kernel_rfl) fun K => ?_ | refine t_draw (by kernel_rfl) fun K => ?_); simp only [go_sem, geff, con20_f, con20_c, con61_f, con61_c, arrV_def, arrOf_agg, slK_sl, hS, spV_def, szV_def, aeV_def, g1])
             | ((with_reducible refine kp_skip ?_ ?_); rfl) | simp only [thenQ, blockQ, scopeQ, Nat.reduceEqDiff, reduceIte] | (with_reducible first | refine And.intro ?_ ?_ | intro vr))
            all_goals try (intros; (try simp only [Bool.and_eq_true, Bool.or_eq_true, Bool.not_eq_true', decide_eq_true_eq, decide_eq_false_iff_not, beq_iff_eq, bne_iff_ne, ne_eq, inI64, List.length_append] at *) <;> omega)
            refine t_loop (ι := { p : Nat × Int // p.1 ≤ c.length ∧ p.2 = prI (c.take p.1) }) (fun i => ⟨upd (upd (upd (upd (upd (upd (upd (upd topF 63 (.lit (.int .i64 i.1.1))) 62 (.lit (.int .i64 c.length))) 61 (.sl false 1 (ints .i64 c))) 12 (.lit (.int .i64 i.1.2))) 11 (.lit (.int .i64 k))) 9 (.sl false 1 (ints .i64 c))) 6 (.ref 1 0)) 3 (.ref 0 0), [AObj.box 33 [.lit (.string a.e), .sl false 1 (ints .i64 a.d), .sl false 1 (ints .i64 a.x)], AObj.box 33 [AV.lit (Value.string ByteArray.empty), AV.sl true 1 [], AV.sl true 1 []]]⟩) (fun i => c.length - i.1.1) ⟨(0, 1), by simp, by simp [prI]⟩ ?_ ?_
            · skip
              (refine Le.frame ?_; repeat' (first | exact leF_top _ | (with_reducible refine leF_sl ?_ ?_) | (refine leF_upd (LeR.of_eq ?_) ?_))) <;> (try (simp only [go_sem]; try rfl))
            · rintro ⟨⟨j, m⟩, hj, hmj⟩ K1
              simp only at hj hmj
              rcases Nat.lt_or_ge j c.length with hc | hc
              · have g1 : decide ((j : Int) < (c.length : Int)) = true := decide_eq_true (by omega)
                have g2 := ints_getD .i64 c j hc
                have hnx := prI_take_succ hc
                have hX1 := hX (j + 1) (by omega)
                rw [hnx, ← hmj] at hX1
                rw [← hmj] at hnx
                generalize c.getD j 0 = d at g2 hnx hX1
                repeat' (first
                 | (with_reducible first | refine t_seq fun K => ?_ | refine t_block ?_ | refine t_scope ?_ | refine t_label ?_ | refine t_skip ?_ | refine t_exit ?_ | refine t_ret ?_ | refine t_k ?_ | refine t_gF ?_ | exact kp_nil | exact Kp.refl _ | exact kp_to | refine kp_cons ?_ | refine kp_arr ?_ | refine kp_app ?_ | refine t_p ?_ | refine t_br (fun hc => ?_) fun hc => ?_)
                 | ((with_reducible first | refine t_kE ?_ | refine t_kD ?_ | refine t_gS ?_ | refine t_kL ?_ | refine t_kLF ?_ ?_ | refine t_region fun K => ?_ | refine t_cond fun A B => ?_ | refine t_drawE (id := 20) (fun i => i == 0) [(0, 1), (1, 1), (2, 1), (3, 1), (4, 1), (5, 1), (6, 1), (7, 1), (8, 1), (9, 1), (10, 1), (11, 1), (12, 1), (13, 0), (14, 1), (15, 0), (16, 1)] (by kernel_rfl) fun K => ?_ | refine t_draw (by kernel_rfl) fun K => ?_); simp only [go_sem, geff, con20_f, con20_c, con61_f, con61_c, g1, g2, Int.toNat_natCast])
                 | ((with_reducible refine kp_skip ?_ ?_); rfl) | simp only [thenQ, blockQ, scopeQ, Nat.reduceEqDiff, reduceIte] | (with_reducible first | refine And.intro ?_ ?_ | intro vr))
                all_goals try (intros; (try simp only [Bool.and_eq_true, Bool.or_eq_true, Bool.not_eq_true', decide_eq_true_eq, decide_eq_false_iff_not, beq_iff_eq, bne_iff_ne, ne_eq, inI64, List.length_append] at *) <;> omega)
                refine ⟨⟨(j + 1, m * d), by simp only; omega, hnx.symm⟩, by simp only; omega, ?_⟩
                (refine Le.frame ?_; repeat' (first | exact leF_top _ | (with_reducible refine leF_sl ?_ ?_) | (refine leF_upd (LeR.of_eq ?_) ?_))) <;> (try (simp only [go_sem]; try rfl))
              · have g1 : decide ((j : Int) < (c.length : Int)) = false := decide_eq_false (by omega)
                rw [List.take_of_length_le hc] at hmj
                subst hmj
                repeat' (first
                 | (with_reducible first | refine t_seq fun K => ?_ | refine t_block ?_ | refine t_scope ?_ | refine t_label ?_ | refine t_skip ?_ | refine t_exit ?_ | refine t_ret ?_ | refine t_k ?_ | refine t_gF ?_ | exact kp_nil | exact Kp.refl _ | exact kp_to | refine kp_cons ?_ | refine kp_arr ?_ | refine kp_app ?_ | refine t_p ?_ | refine t_br (fun hc => ?_) fun hc => ?_)
                 | ((with_reducible first | refine t_kE ?_ | refine t_kD ?_ | refine t_gS ?_ | refine t_kL ?_ | refine t_kLF ?_ ?_ | refine t_region fun K => ?_ | refine t_cond fun A B => ?_ | refine t_drawE (id := 20) (fun i => i == 0) [(0, 1), (1, 1), (2, 1), (3, 1), (4, 1), (5, 1), (6, 1), (7, 1), (8, 1), (9, 1), (10, 1), (11, 1), (12, 1), (13, 0), (14, 1), (15, 0), (16, 1)] (by kernel_rfl) fun K => ?_ | refine t_draw (by kernel_rfl) fun K => ?_); simp only [go_sem, geff, con20_f, con20_c, con61_f, con61_c, arrV_def, arrOf_agg, slK_sl, hS, spV_def, szV_def, aeV_def, g1, hq, List.length_take, List.length_drop])
                 | ((with_reducible refine kp_skip ?_ ?_); rfl) | simp only [thenQ, blockQ, scopeQ, Nat.reduceEqDiff, reduceIte] | (with_reducible first | refine And.intro ?_ ?_ | intro vr))
                all_goals try (intros; (try simp only [Bool.and_eq_true, Bool.or_eq_true, Bool.not_eq_true', decide_eq_true_eq, decide_eq_false_iff_not, beq_iff_eq, bne_iff_ne, ne_eq, inI64, List.length_append] at *) <;> omega)
                all_goals try exact trivial
                refine end_ret rfl ?_
                simp only [fin, go_sem]
                exact LeA.refl _
          · intro _ _ _ _ h; cases h
    · have n1 : ((own.length : Int) != (f.length : Int)) = true := by rw [bne_iff_ne]; omega
      rw [if_pos hn]
      refine pc_of E19_ok mixed (fun _ => [0, 1, 2, 3, 6, 7, 8, 9, 10, 11, 12, 13, 14, 16, 25, 32, 34, 35, 36, 37, 50, 61, 62, 63, 64]) Try.func22 rfl (by kernel_rfl) (Nat.le_of_ble_eq_true rfl) ?_
      simp only [initF_cons, initF_nil, Nat.reduceAdd]
      refine t_name fun KF => ?_
      unfold E19
      repeat' (first
       | (with_reducible first | refine t_seq fun K => ?_ | refine t_block ?_ | refine t_scope ?_ | refine t_label ?_ | refine t_skip ?_ | refine t_exit ?_ | refine t_ret ?_ | refine t_k ?_ | refine t_gF ?_ | exact kp_nil | exact Kp.refl _ | exact kp_to | refine kp_cons ?_ | refine kp_arr ?_ | refine kp_app ?_ | refine t_p ?_ | refine t_br (fun hc => ?_) fun hc => ?_)
       | ((with_reducible first | refine t_kE ?_ | refine t_kD ?_ | refine t_gS ?_ | refine t_kL ?_ | refine t_kLF ?_ ?_ | refine t_region fun K => ?_ | refine t_cond fun A B => ?_ | refine t_drawE (id := 20) (fun i => i == 0) [(0, 1), (1, 1), (2, 1), (3, 1), (4, 1), (5, 1), (6, 1), (7, 1), (8, 1), (9, 1), (10, 1), (11, 1), (12, 1), (13, 0), (14, 1), (15, 0), (16, 1)] (by kernel_rfl) fun K => ?_ | refine t_draw (by kernel_rfl) fun K => ?_); simp only [go_sem, geff, con20_f, con20_c, con61_f, con61_c, arrV_def, arrOf_agg, slK_sl, hS, spV_def, szV_def, aeV_def, n1, bne_self_eq_false])
       | ((with_reducible refine kp_skip ?_ ?_); rfl) | simp only [thenQ, blockQ, scopeQ, Nat.reduceEqDiff, reduceIte] | (with_reducible first | refine And.intro ?_ ?_ | intro vr))
      all_goals try (intros; (try simp only [Bool.and_eq_true, Bool.or_eq_true, Bool.not_eq_true', decide_eq_true_eq, decide_eq_false_iff_not, beq_iff_eq, bne_iff_ne, ne_eq, inI64, List.length_append] at *) <;> omega)
      all_goals try exact ha
      all_goals try exact hr
      refine end_ret rfl ?_
      simp only [fin, go_sem]
      exact nilAe_le
  · have e1 : (er != 0) = true := by rw [bne_iff_ne]; exact e0
    rw [if_pos (by simpa using e0)]
    refine pc_of E19_ok mixed (fun _ => [0, 1, 2, 3, 6, 7, 8, 9, 10, 11, 12, 13, 14, 16, 25, 32, 34, 35, 36, 37, 50, 61, 62, 63, 64]) Try.func22 rfl (by kernel_rfl) (Nat.le_of_ble_eq_true rfl) ?_
    simp only [initF_cons, initF_nil, Nat.reduceAdd]
    refine t_name fun KF => ?_
    unfold E19
    repeat' (first
     | (with_reducible first | refine t_seq fun K => ?_ | refine t_block ?_ | refine t_scope ?_ | refine t_label ?_ | refine t_skip ?_ | refine t_exit ?_ | refine t_ret ?_ | refine t_k ?_ | refine t_gF ?_ | exact kp_nil | exact Kp.refl _ | exact kp_to | refine kp_cons ?_ | refine kp_arr ?_ | refine kp_app ?_ | refine t_p ?_ | refine t_br (fun hc => ?_) fun hc => ?_)
     | ((with_reducible first | refine t_kE ?_ | refine t_kD ?_ | refine t_gS ?_ | refine t_kL ?_ | refine t_kLF ?_ ?_ | refine t_region fun K => ?_ | refine t_cond fun A B => ?_ | refine t_drawE (id := 20) (fun i => i == 0) [(0, 1), (1, 1), (2, 1), (3, 1), (4, 1), (5, 1), (6, 1), (7, 1), (8, 1), (9, 1), (10, 1), (11, 1), (12, 1), (13, 0), (14, 1), (15, 0), (16, 1)] (by kernel_rfl) fun K => ?_ | refine t_draw (by kernel_rfl) fun K => ?_); simp only [go_sem, geff, con20_f, con20_c, con61_f, con61_c, arrV_def, arrOf_agg, slK_sl, hS, spV_def, szV_def, aeV_def, e1])
     | ((with_reducible refine kp_skip ?_ ?_); rfl) | simp only [thenQ, blockQ, scopeQ, Nat.reduceEqDiff, reduceIte] | (with_reducible first | refine And.intro ?_ ?_ | intro vr))
    all_goals try (intros; (try simp only [Bool.and_eq_true, Bool.or_eq_true, Bool.not_eq_true', decide_eq_true_eq, decide_eq_false_iff_not, beq_iff_eq, bne_iff_ne, ne_eq, inI64, List.length_append] at *) <;> omega)
    all_goals try exact ha
    all_goals try exact hr
    refine end_ret rfl ?_
    simp only [fin, go_sem]
    exact nilAe_le
noncomputable def con22 : PCon Try.prog where
  f := 22
  c := fun
    | [xa, .lit (.int .i64 r), xown] => match arrOf xa, slK .i64 xown with | some a, some own => some (okA a ∧ inI64 r ∧ own.length ≤ 1000000, aeV (cellS a r own)) | _, _ => none
    | _ => none
  ok := by
    intro args p r hc hp
    split at hc
    · split at hc
      · rename_i ha hown
        cases hc
        exact PC.weak ((fun hp : _ ∧ _ ∧ _ => cell_pc hp.1 hp.2.1 hp.2.2) hp) ⟨arrOf_le ha, LeA.refl _, slK_le hown, trivial⟩
      · cases hc
    · cases hc
  fk := fk22
theorem con22_f : con22.f = 22 := rfl
theorem con22_c {xa : AV} {r : Int} {xown : AV} : con22.c [xa, .lit (.int .i64 r), xown] = match arrOf xa, slK .i64 xown with | some a, some own => some (okA a ∧ inI64 r ∧ own.length ≤ 1000000, aeV (cellS a r own)) | _, _ => none := rfl
noncomputable def E20 : Env := envOf (P := Try.prog) zer (fun _ => false) (fun _ => false) [con21, con30, con63] []
theorem E20_ok : EnvOk Try.prog E20 := envOk zer_ok
set_option maxRecDepth 20000 in
set_option maxHeartbeats 4000000 in
theorem rcell_pc {a : Arr} {r : Int} {own : List Int} (ha : okA a) (hr : inI64 r) (hl : own.length ≤ 1000000) : PC Try.prog 23 [arrV a, .lit (.int .i64 r), .sl false 1 (ints .i64 own)] (aeV (cellS a r own)) := by
  unfold cellS
  have hsl := splitS_len r ha
  have ha1 := ha.1
  have ha2 := ha.2
  generalize hS : splitS a r = s at hsl
  obtain ⟨f, c, er⟩ := s
  simp only at hsl
  by_cases e0 : er = 0
  · subst e0
    obtain ⟨h0, hd, hr0, hrl⟩ := splitS_inv hS
    rw [if_neg (by simp)]
    by_cases hn : own.length = f.length
    · have n1 : ((own.length : Int) != (f.length : Int)) = false := by rw [bne_eq_false_iff_eq]; omega
      rw [if_neg (by simpa using hn)]
      simp only
      have hsz := (ofE_inv h0).2.1
      have hbd : ∀ i, i ≤ f.length → 0 ≤ prI (f.take i) ∧ prI (f.take i) ≤ 1152921504606846976 := fun i hi => by
        have := part_bd hsz 0 i
        rwa [hd, List.drop_zero, List.take_append_of_le_length hi] at this
      generalize hG : atS f own 0 = G
      refine pc_of E20_ok mixed (fun _ => [0, 1, 2, 3, 6, 7, 8, 9, 10, 11, 12, 13, 22, 29, 34, 52, 71]) Try.func23 rfl (by kernel_rfl) (Nat.le_of_ble_eq_true rfl) ?_
      simp only [initF_cons, initF_nil, Nat.reduceAdd]
      refine t_name fun KF => ?_
      unfold E20
      repeat' (first
       | (with_reducible first | refine t_seq fun K => ?_ | refine t_block ?_ | refine t_scope ?_ | refine t_label ?_ | refine t_skip ?_ | refine t_exit ?_ | refine t_ret ?_ | refine t_k ?_ | refine t_gF ?_ | exact kp_nil | exact Kp.refl _ | exact kp_to | refine kp_cons ?_ | refine kp_arr ?_ | refine kp_app ?_ | refine t_p ?_ | refine t_br (fun hc => ?_) fun hc => ?_)
       | ((with_reducible first | refine t_kE ?_ | refine t_kD ?_ | refine t_gS ?_ | refine t_kL ?_ | refine t_kLF ?_ ?_ | refine t_region fun K => ?_ | refine t_cond fun A B => ?_ | refine t_drawE (id := 16) (fun i => i == 0) [(0, 1), (1, 1), (2, 1), (3, 1), (4, 1), (5, 1), (6, 1), (7, 1), (8, 1), (9, 1), (10, 1), (11, 1), (12, 1), (13, 1), (14, 0), (15, 1), (16, 1), (17, 0), (18, 1)] (by kernel_rfl) fun K => ?_ | refine t_draw (by kernel_rfl) fun K => ?_); simp only [go_sem, geff, con21_f, con21_c, con30_f, con30_c, con63_f, con63_c, arrV_def, arrOf_agg, slK_sl, hS, spV_def, szV_def, aeV_def, n1, bne_self_eq_false])
       | ((with_reducible refine kp_skip ?_ ?_); rfl) | simp only [thenQ, blockQ, scopeQ, Nat.reduceEqDiff, reduceIte] | (with_reducible first | refine And.intro ?_ ?_ | intro vr))
      all_goals try (intros; (try simp only [Bool.and_eq_true, Bool.or_eq_true, Bool.not_eq_true', decide_eq_true_eq, decide_eq_false_iff_not, beq_iff_eq, bne_iff_ne, ne_eq, inI64, List.length_append] at *) <;> omega)
      all_goals try exact ha
      all_goals try exact hr
      refine t_loop (ι := Lc f own G) (fun i => ⟨upd (upd (upd (upd (upd (upd (upd topF 12 (.lit (.int .i64 i.i))) 11 (.lit (.int .i64 i.k))) 9 (.sl false 1 (ints .i64 c))) 8 (.sl false 1 (ints .i64 f))) 6 (.ref 1 0)) 3 (.ref 0 0)) 2 (.sl false 1 (ints .i64 own)), [AObj.box 33 [.lit (.string a.e), .sl false 1 (ints .i64 a.d), .sl false 1 (ints .i64 a.x)], AObj.box 33 [AV.lit (Value.string ByteArray.empty), AV.sl true 1 [], AV.sl true 1 []]]⟩) (fun i => own.length - i.i) ⟨0, 0, by omega, by omega, by simp [prI], by simp, hG⟩ ?_ ?_
      · skip
        (refine Le.frame ?_; repeat' (first | exact leF_top _ | (with_reducible refine leF_sl ?_ ?_) | (refine leF_upd (LeR.of_eq ?_) ?_))) <;> (try (simp only [go_sem]; try rfl))
      · rintro ⟨i, k, hi, hk, hk', hp, hF⟩ K0
        rcases Nat.lt_or_ge i own.length with hc | hc
        · have hcf : i < f.length := by omega
          have g1 : decide ((i : Int) < (own.length : Int)) = true := decide_eq_true (by omega)
          have g2 := ints_getD .i64 own i hc
          have g3 := ints_getD .i64 f i hcf
          have hnx := prI_take_succ hcf
          have hb1 := hbd (i + 1) (by omega)
          have htp := take_pos hcf hp
          rw [drop_getD 0 hcf, drop_getD 0 hc, atS] at hF
          generalize own.getD i 0 = n at g2 hF
          generalize f.getD i 0 = d at g3 hF hnx htp
          by_cases n0 : n < 0
          · have n0' : decide (n < 0) = true := decide_eq_true n0
            rw [if_pos (.inl n0)] at hF
            subst hF
            repeat' (first
             | (with_reducible first | refine t_seq fun K => ?_ | refine t_block ?_ | refine t_scope ?_ | refine t_label ?_ | refine t_skip ?_ | refine t_exit ?_ | refine t_ret ?_ | refine t_k ?_ | refine t_gF ?_ | exact kp_nil | exact Kp.refl _ | exact kp_to | refine kp_cons ?_ | refine kp_arr ?_ | refine kp_app ?_ | refine t_p ?_ | refine t_br (fun hc => ?_) fun hc => ?_)
             | ((with_reducible first | refine t_kE ?_ | refine t_kD ?_ | refine t_gS ?_ | refine t_kL ?_ | refine t_kLF ?_ ?_ | refine t_region fun K => ?_ | refine t_cond fun A B => ?_ | refine t_drawE (id := 16) (fun i => i == 0) [(0, 1), (1, 1), (2, 1), (3, 1), (4, 1), (5, 1), (6, 1), (7, 1), (8, 1), (9, 1), (10, 1), (11, 1), (12, 1), (13, 1), (14, 0), (15, 1), (16, 1), (17, 0), (18, 1)] (by kernel_rfl) fun K => ?_ | refine t_draw (by kernel_rfl) fun K => ?_); simp only [go_sem, geff, con21_f, con21_c, con30_f, con30_c, con63_f, con63_c, g1, g2, g3, n0', Int.toNat_natCast])
             | ((with_reducible refine kp_skip ?_ ?_); rfl) | simp only [thenQ, blockQ, scopeQ, Nat.reduceEqDiff, reduceIte] | (with_reducible first | refine And.intro ?_ ?_ | intro vr))
            all_goals try (intros; (try simp only [Bool.and_eq_true, Bool.or_eq_true, Bool.not_eq_true', decide_eq_true_eq, decide_eq_false_iff_not, beq_iff_eq, bne_iff_ne, ne_eq, inI64, List.length_append] at *) <;> omega)
            refine end_ret rfl ?_
            simp only [fin, go_sem]
            exact nilAe_le
          · have n0' : decide (n < 0) = false := decide_eq_false n0
            by_cases n2 : n ≥ d
            · have n2' : decide (n ≥ d) = true := decide_eq_true n2
              rw [if_pos (.inr n2)] at hF
              subst hF
              repeat' (first
               | (with_reducible first | refine t_seq fun K => ?_ | refine t_block ?_ | refine t_scope ?_ | refine t_label ?_ | refine t_skip ?_ | refine t_exit ?_ | refine t_ret ?_ | refine t_k ?_ | refine t_gF ?_ | exact kp_nil | exact Kp.refl _ | exact kp_to | refine kp_cons ?_ | refine kp_arr ?_ | refine kp_app ?_ | refine t_p ?_ | refine t_br (fun hc => ?_) fun hc => ?_)
               | ((with_reducible first | refine t_kE ?_ | refine t_kD ?_ | refine t_gS ?_ | refine t_kL ?_ | refine t_kLF ?_ ?_ | refine t_region fun K => ?_ | refine t_cond fun A B => ?_ | refine t_drawE (id := 16) (fun i => i == 0) [(0, 1), (1, 1), (2, 1), (3, 1), (4, 1), (5, 1), (6, 1), (7, 1), (8, 1), (9, 1), (10, 1), (11, 1), (12, 1), (13, 1), (14, 0), (15, 1), (16, 1), (17, 0), (18, 1)] (by kernel_rfl) fun K => ?_ | refine t_draw (by kernel_rfl) fun K => ?_); simp only [go_sem, geff, con21_f, con21_c, con30_f, con30_c, con63_f, con63_c, g1, g2, g3, n0', n2', Int.toNat_natCast])
               | ((with_reducible refine kp_skip ?_ ?_); rfl) | simp only [thenQ, blockQ, scopeQ, Nat.reduceEqDiff, reduceIte] | (with_reducible first | refine And.intro ?_ ?_ | intro vr))
              all_goals try (intros; (try simp only [Bool.and_eq_true, Bool.or_eq_true, Bool.not_eq_true', decide_eq_true_eq, decide_eq_false_iff_not, beq_iff_eq, bne_iff_ne, ne_eq, inI64, List.length_append] at *) <;> omega)
              refine end_ret rfl ?_
              simp only [fin, go_sem]
              exact nilAe_le
            · have n2' : decide (n ≥ d) = false := decide_eq_false n2
              rw [if_neg (by omega)] at hF
              have hst := at_step hk hk' (show 0 ≤ n by omega) (show n < d by omega)
              rw [hnx] at hb1
              generalize prI (f.take i) * d = pd at hb1 hst hnx
              repeat' (first
               | (with_reducible first | refine t_seq fun K => ?_ | refine t_block ?_ | refine t_scope ?_ | refine t_label ?_ | refine t_skip ?_ | refine t_exit ?_ | refine t_ret ?_ | refine t_k ?_ | refine t_gF ?_ | exact kp_nil | exact Kp.refl _ | exact kp_to | refine kp_cons ?_ | refine kp_arr ?_ | refine kp_app ?_ | refine t_p ?_ | refine t_br (fun hc => ?_) fun hc => ?_)
               | ((with_reducible first | refine t_kE ?_ | refine t_kD ?_ | refine t_gS ?_ | refine t_kL ?_ | refine t_kLF ?_ ?_ | refine t_region fun K => ?_ | refine t_cond fun A B => ?_ | refine t_drawE (id := 16) (fun i => i == 0) [(0, 1), (1, 1), (2, 1), (3, 1), (4, 1), (5, 1), (6, 1), (7, 1), (8, 1), (9, 1), (10, 1), (11, 1), (12, 1), (13, 1), (14, 0), (15, 1), (16, 1), (17, 0), (18, 1)] (by kernel_rfl) fun K => ?_ | refine t_draw (by kernel_rfl) fun K => ?_); simp only [go_sem, geff, con21_f, con21_c, con30_f, con30_c, con63_f, con63_c, g1, g2, g3, n0', n2', Int.toNat_natCast])
               | ((with_reducible refine kp_skip ?_ ?_); rfl) | simp only [thenQ, blockQ, scopeQ, Nat.reduceEqDiff, reduceIte] | (with_reducible first | refine And.intro ?_ ?_ | intro vr))
              all_goals try (intros; (try simp only [Bool.and_eq_true, Bool.or_eq_true, Bool.not_eq_true', decide_eq_true_eq, decide_eq_false_iff_not, beq_iff_eq, bne_iff_ne, ne_eq, inI64, List.length_append] at *) <;> omega)
              refine ⟨⟨i + 1, k * d + n, by omega, by omega, by omega, htp (by omega), hF⟩, by simp only; omega, ?_⟩
              (refine Le.frame ?_; repeat' (first | exact leF_top _ | (with_reducible refine leF_sl ?_ ?_) | (refine leF_upd (LeR.of_eq ?_) ?_))) <;> (try (simp only [go_sem]; try rfl))
        · have g1 : decide ((i : Int) < (own.length : Int)) = false := decide_eq_false (by omega)
          rw [List.drop_eq_nil_of_le hc, List.drop_eq_nil_of_le (by omega), atS] at hF
          · subst hF
            rw [List.take_of_length_le (by omega)] at hk' hp
            obtain ⟨hcs, hc0, hkc, hkl, hxl, hO⟩ := cell_ok h0 hd hp hk hk'
            replace hO := ofS_ok hO
            have hq : (a.x.take (k * prI c + prI c).toNat).drop (k * prI c).toNat = (a.x.drop (k * prI c).toNat).take (prI c).toNat := by
              rw [List.drop_take]; congr 1; omega
            simp only
            repeat' (first
             | (with_reducible first | refine t_seq fun K => ?_ | refine t_block ?_ | refine t_scope ?_ | refine t_label ?_ | refine t_skip ?_ | refine t_exit ?_ | refine t_ret ?_ | refine t_k ?_ | refine t_gF ?_ | exact kp_nil | exact Kp.refl _ | exact kp_to | refine kp_cons ?_ | refine kp_arr ?_ | refine kp_app ?_ | refine t_p ?_ | refine t_br (fun hc => ?_) fun hc => ?_)
             | ((with_reducible first | refine t_kE ?_ | refine t_kD ?_ | refine t_gS ?_ | refine t_kL ?_ | refine t_kLF ?_ ?_ | refine t_region fun K => ?_ | refine t_cond fun A B => ?_ | refine t_drawE (id := 16) (fun i => i == 0) [(0, 1), (1, 1), (2, 1), (3, 1), (4, 1), (5, 1), (6, 1), (7, 1), (8, 1), (9, 1), (10, 1), (11, 1), (12, 1), (13, 1), (14, 0), (15, 1), (16, 1), (17, 0), (18, 1)] (by kernel_rfl) fun K => ?_ | refine t_draw (by kernel_rfl) fun K => ?_); simp only [go_sem, geff, con21_f, con21_c, con30_f, con30_c, con63_f, con63_c, arrV_def, arrOf_agg, slK_sl, hS, spV_def, szV_def, aeV_def, g1, hcs, hq, hO, List.length_take, List.length_drop])
             | ((with_reducible refine kp_skip ?_ ?_); rfl) | simp only [thenQ, blockQ, scopeQ, Nat.reduceEqDiff, reduceIte] | (with_reducible first | refine And.intro ?_ ?_ | intro vr))
            all_goals try (intros; (try simp only [Bool.and_eq_true, Bool.or_eq_true, Bool.not_eq_true', decide_eq_true_eq, decide_eq_false_iff_not, beq_iff_eq, bne_iff_ne, ne_eq, inI64, List.length_append] at *) <;> omega)
            all_goals try exact trivial
            refine end_ret rfl ?_
            simp only [fin, go_sem]
            exact LeA.refl _
          · intro _ _ _ _ h; cases h
    · have n1 : ((own.length : Int) != (f.length : Int)) = true := by rw [bne_iff_ne]; omega
      rw [if_pos hn]
      refine pc_of E20_ok mixed (fun _ => [0, 1, 2, 3, 6, 7, 8, 9, 10, 11, 12, 13, 22, 29, 34, 52, 71]) Try.func23 rfl (by kernel_rfl) (Nat.le_of_ble_eq_true rfl) ?_
      simp only [initF_cons, initF_nil, Nat.reduceAdd]
      refine t_name fun KF => ?_
      unfold E20
      repeat' (first
       | (with_reducible first | refine t_seq fun K => ?_ | refine t_block ?_ | refine t_scope ?_ | refine t_label ?_ | refine t_skip ?_ | refine t_exit ?_ | refine t_ret ?_ | refine t_k ?_ | refine t_gF ?_ | exact kp_nil | exact Kp.refl _ | exact kp_to | refine kp_cons ?_ | refine kp_arr ?_ | refine kp_app ?_ | refine t_p ?_ | refine t_br (fun hc => ?_) fun hc => ?_)
       | ((with_reducible first | refine t_kE ?_ | refine t_kD ?_ | refine t_gS ?_ | refine t_kL ?_ | refine t_kLF ?_ ?_ | refine t_region fun K => ?_ | refine t_cond fun A B => ?_ | refine t_drawE (id := 16) (fun i => i == 0) [(0, 1), (1, 1), (2, 1), (3, 1), (4, 1), (5, 1), (6, 1), (7, 1), (8, 1), (9, 1), (10, 1), (11, 1), (12, 1), (13, 1), (14, 0), (15, 1), (16, 1), (17, 0), (18, 1)] (by kernel_rfl) fun K => ?_ | refine t_draw (by kernel_rfl) fun K => ?_); simp only [go_sem, geff, con21_f, con21_c, con30_f, con30_c, con63_f, con63_c, arrV_def, arrOf_agg, slK_sl, hS, spV_def, szV_def, aeV_def, n1, bne_self_eq_false])
       | ((with_reducible refine kp_skip ?_ ?_); rfl) | simp only [thenQ, blockQ, scopeQ, Nat.reduceEqDiff, reduceIte] | (with_reducible first | refine And.intro ?_ ?_ | intro vr))
      all_goals try (intros; (try simp only [Bool.and_eq_true, Bool.or_eq_true, Bool.not_eq_true', decide_eq_true_eq, decide_eq_false_iff_not, beq_iff_eq, bne_iff_ne, ne_eq, inI64, List.length_append] at *) <;> omega)
      all_goals try exact ha
      all_goals try exact hr
      refine end_ret rfl ?_
      simp only [fin, go_sem]
      exact nilAe_le
  · have e1 : (er != 0) = true := by rw [bne_iff_ne]; exact e0
    rw [if_pos (by simpa using e0)]
    refine pc_of E20_ok mixed (fun _ => [0, 1, 2, 3, 6, 7, 8, 9, 10, 11, 12, 13, 22, 29, 34, 52, 71]) Try.func23 rfl (by kernel_rfl) (Nat.le_of_ble_eq_true rfl) ?_
    simp only [initF_cons, initF_nil, Nat.reduceAdd]
    refine t_name fun KF => ?_
    unfold E20
    repeat' (first
     | (with_reducible first | refine t_seq fun K => ?_ | refine t_block ?_ | refine t_scope ?_ | refine t_label ?_ | refine t_skip ?_ | refine t_exit ?_ | refine t_ret ?_ | refine t_k ?_ | refine t_gF ?_ | exact kp_nil | exact Kp.refl _ | exact kp_to | refine kp_cons ?_ | refine kp_arr ?_ | refine kp_app ?_ | refine t_p ?_ | refine t_br (fun hc => ?_) fun hc => ?_)
     | ((with_reducible first | refine t_kE ?_ | refine t_kD ?_ | refine t_gS ?_ | refine t_kL ?_ | refine t_kLF ?_ ?_ | refine t_region fun K => ?_ | refine t_cond fun A B => ?_ | refine t_drawE (id := 16) (fun i => i == 0) [(0, 1), (1, 1), (2, 1), (3, 1), (4, 1), (5, 1), (6, 1), (7, 1), (8, 1), (9, 1), (10, 1), (11, 1), (12, 1), (13, 1), (14, 0), (15, 1), (16, 1), (17, 0), (18, 1)] (by kernel_rfl) fun K => ?_ | refine t_draw (by kernel_rfl) fun K => ?_); simp only [go_sem, geff, con21_f, con21_c, con30_f, con30_c, con63_f, con63_c, arrV_def, arrOf_agg, slK_sl, hS, spV_def, szV_def, aeV_def, e1])
     | ((with_reducible refine kp_skip ?_ ?_); rfl) | simp only [thenQ, blockQ, scopeQ, Nat.reduceEqDiff, reduceIte] | (with_reducible first | refine And.intro ?_ ?_ | intro vr))
    all_goals try (intros; (try simp only [Bool.and_eq_true, Bool.or_eq_true, Bool.not_eq_true', decide_eq_true_eq, decide_eq_false_iff_not, beq_iff_eq, bne_iff_ne, ne_eq, inI64, List.length_append] at *) <;> omega)
    all_goals try exact ha
    all_goals try exact hr
    refine end_ret rfl ?_
    simp only [fin, go_sem]
    exact nilAe_le
noncomputable def con23 : PCon Try.prog where
  f := 23
  c := fun
    | [xa, .lit (.int .i64 r), xown] => match arrOf xa, slK .i64 xown with | some a, some own => some (okA a ∧ inI64 r ∧ own.length ≤ 1000000, aeV (cellS a r own)) | _, _ => none
    | _ => none
  ok := by
    intro args p r hc hp
    split at hc
    · split at hc
      · rename_i ha hown
        cases hc
        exact PC.weak ((fun hp : _ ∧ _ ∧ _ => rcell_pc hp.1 hp.2.1 hp.2.2) hp) ⟨arrOf_le ha, LeA.refl _, slK_le hown, trivial⟩
      · cases hc
    · cases hc
  fk := fk23
theorem con23_f : con23.f = 23 := rfl
theorem con23_c {xa : AV} {r : Int} {xown : AV} : con23.c [xa, .lit (.int .i64 r), xown] = match arrOf xa, slK .i64 xown with | some a, some own => some (okA a ∧ inI64 r ∧ own.length ≤ 1000000, aeV (cellS a r own)) | _, _ => none := rfl
end Go.Proofs.Ytcjjakhmpffopaa

/- Equal arrays; the law on frames and cells. -/
namespace Go.Proofs.Ytcjjakhmpffopaa
open Go Go.Fw

def eqA (a b : Arr) : Bool := eqS a.e b.e && (decide (a.d = b.d) && decide (a.x = b.x))
theorem eqA_refl (a : Arr) : eqA a a = true := by unfold eqA; rw [eqS_refl, dself, dself]; rfl
noncomputable def E21 : Env := envOf (P := Try.prog) zer (fun _ => false) (fun _ => false) [con19] []
theorem E21_ok : EnvOk Try.prog E21 := envOk zer_ok
set_option maxRecDepth 20000 in
set_option maxHeartbeats 1000000 in
theorem eqa_pc {a b : Arr} (ha : okA a) : PC Try.prog 24 [arrV a, arrV b] (.lit (.bool (eqA a b))) := by
  have ha1 := ha.1
  have ha2 := ha.2
  unfold eqA
  by_cases h1 : eqS a.e b.e = true
  · by_cases h2 : a.d = b.d
    · have d2 : decide (a.d = b.d) = true := decide_eq_true h2
      rw [h1, d2]
      refine pc_of E21_ok mixed (fun _ => [0, 1, 2, 3, 4]) Try.func24 rfl (by kernel_rfl) (Nat.le_of_ble_eq_true rfl) ?_
      simp only [initF_cons, initF_nil, Nat.reduceAdd]
      refine t_name fun KF => ?_
      unfold E21
      repeat' (first
       | (with_reducible first | refine t_seq fun K => ?_ | refine t_block ?_ | refine t_scope ?_ | refine t_label ?_ | refine t_skip ?_ | refine t_exit ?_ | refine t_ret ?_ | refine t_k ?_ | refine t_gF ?_ | exact kp_nil | exact Kp.refl _ | exact kp_to | refine kp_cons ?_ | refine kp_arr ?_ | refine kp_app ?_ | refine t_p ?_ | refine t_br (fun hc => ?_) fun hc => ?_)
       | ((with_reducible first | refine t_kE ?_ | refine t_kD ?_ | refine t_gS ?_ | refine t_kL ?_ | refine t_kLF ?_ ?_ | refine t_region fun K => ?_ | refine t_cond fun A B => ?_ | refine t_draw (by kernel_rfl) fun K => ?_); simp only [go_sem, geff, con19_f, con19_c, arrV_def, slK_sl, h1, d2])
       | ((with_reducible refine kp_skip ?_ ?_); rfl) | simp only [thenQ, blockQ, scopeQ, Nat.reduceEqDiff, reduceIte] | (with_reducible first | refine And.intro ?_ ?_ | intro vr))
      all_goals try (intros; (try simp only [Bool.and_eq_true, Bool.or_eq_true, Bool.not_eq_true', decide_eq_true_eq, decide_eq_false_iff_not, beq_iff_eq, bne_iff_ne, ne_eq, inI64, List.length_append] at *) <;> omega)
      refine end_ret rfl ?_
      simp only [fin, go_sem]
      exact LeA.refl _
    · have d2 : decide (a.d = b.d) = false := decide_eq_false h2
      rw [h1, d2]
      refine pc_of E21_ok mixed (fun _ => [0, 1, 2, 3, 4]) Try.func24 rfl (by kernel_rfl) (Nat.le_of_ble_eq_true rfl) ?_
      simp only [initF_cons, initF_nil, Nat.reduceAdd]
      refine t_name fun KF => ?_
      unfold E21
      repeat' (first
       | (with_reducible first | refine t_seq fun K => ?_ | refine t_block ?_ | refine t_scope ?_ | refine t_label ?_ | refine t_skip ?_ | refine t_exit ?_ | refine t_ret ?_ | refine t_k ?_ | refine t_gF ?_ | exact kp_nil | exact Kp.refl _ | exact kp_to | refine kp_cons ?_ | refine kp_arr ?_ | refine kp_app ?_ | refine t_p ?_ | refine t_br (fun hc => ?_) fun hc => ?_)
       | ((with_reducible first | refine t_kE ?_ | refine t_kD ?_ | refine t_gS ?_ | refine t_kL ?_ | refine t_kLF ?_ ?_ | refine t_region fun K => ?_ | refine t_cond fun A B => ?_ | refine t_draw (by kernel_rfl) fun K => ?_); simp only [go_sem, geff, con19_f, con19_c, arrV_def, slK_sl, h1, d2])
       | ((with_reducible refine kp_skip ?_ ?_); rfl) | simp only [thenQ, blockQ, scopeQ, Nat.reduceEqDiff, reduceIte] | (with_reducible first | refine And.intro ?_ ?_ | intro vr))
      all_goals try (intros; (try simp only [Bool.and_eq_true, Bool.or_eq_true, Bool.not_eq_true', decide_eq_true_eq, decide_eq_false_iff_not, beq_iff_eq, bne_iff_ne, ne_eq, inI64, List.length_append] at *) <;> omega)
      refine end_ret rfl ?_
      simp only [fin, go_sem]
      exact LeA.refl _
  · have h1' : eqS a.e b.e = false := by simpa using h1
    rw [h1']
    refine pc_of E21_ok mixed (fun _ => [0, 1, 2, 3, 4]) Try.func24 rfl (by kernel_rfl) (Nat.le_of_ble_eq_true rfl) ?_
    simp only [initF_cons, initF_nil, Nat.reduceAdd]
    refine t_name fun KF => ?_
    unfold E21
    repeat' (first
     | (with_reducible first | refine t_seq fun K => ?_ | refine t_block ?_ | refine t_scope ?_ | refine t_label ?_ | refine t_skip ?_ | refine t_exit ?_ | refine t_ret ?_ | refine t_k ?_ | refine t_gF ?_ | exact kp_nil | exact Kp.refl _ | exact kp_to | refine kp_cons ?_ | refine kp_arr ?_ | refine kp_app ?_ | refine t_p ?_ | refine t_br (fun hc => ?_) fun hc => ?_)
     | ((with_reducible first | refine t_kE ?_ | refine t_kD ?_ | refine t_gS ?_ | refine t_kL ?_ | refine t_kLF ?_ ?_ | refine t_region fun K => ?_ | refine t_cond fun A B => ?_ | refine t_draw (by kernel_rfl) fun K => ?_); simp only [go_sem, geff, con19_f, con19_c, arrV_def, slK_sl, h1'])
     | ((with_reducible refine kp_skip ?_ ?_); rfl) | simp only [thenQ, blockQ, scopeQ, Nat.reduceEqDiff, reduceIte] | (with_reducible first | refine And.intro ?_ ?_ | intro vr))
    all_goals try (intros; (try simp only [Bool.and_eq_true, Bool.or_eq_true, Bool.not_eq_true', decide_eq_true_eq, decide_eq_false_iff_not, beq_iff_eq, bne_iff_ne, ne_eq, inI64, List.length_append] at *) <;> omega)
    refine end_ret rfl ?_
    simp only [fin, go_sem]
    exact LeA.refl _
noncomputable def con24 : PCon Try.prog where
  f := 24
  c := fun
    | [xa, xb] => match arrOf xa, arrOf xb with | some a, some b => some (okA a, .lit (.bool (eqA a b))) | _, _ => none
    | _ => none
  ok := by
    intro args p r hc hp
    split at hc
    · split at hc
      · rename_i ha hb
        cases hc
        exact PC.weak (eqa_pc hp) ⟨arrOf_le ha, arrOf_le hb, trivial⟩
      · cases hc
    · cases hc
  fk := fk24
theorem con24_f : con24.f = 24 := rfl
theorem con24_c {xa : AV} {xb : AV} : con24.c [xa, xb] = match arrOf xa, arrOf xb with | some a, some b => some (okA a, .lit (.bool (eqA a b))) | _, _ => none := rfl
theorem okA_nil : okA nilA := ⟨by simp [nilA], by simp [nilA]⟩
theorem cellS_ok {a : Arr} {r : Int} {own : List Int} (ha : okA a) : okA (cellS a r own).1 := by
  unfold cellS
  split
  · exact okA_nil
  split
  · exact okA_nil
  split
  · exact okA_nil
  · exact ⟨(splitS_len r ha).2, by have := ha.2; simp only [List.length_take, List.length_drop]; omega⟩
noncomputable def E22 : Env := envOf (P := Try.prog) zer (fun _ => false) (fun _ => false) [con15, con16, con19, con20, con21, con22, con23, con24] []
theorem E22_ok : EnvOk Try.prog E22 := envOk zer_ok
theorem fewA_ok {a : Arr} (h : fewL [a] = true) : okA a := fewL_ok h a (by simp)
set_option maxRecDepth 20000 in
set_option maxHeartbeats 4000000 in
theorem split_law_pc {a : Arr} {r : Int} {own : List Int} (hr : inI64 r) : PC Try.prog 4 [arrV a, .lit (.int .i64 r), .sl false 1 (ints .i64 own)] (.lit (.bool true)) := by
  by_cases hf : fewL [a] = true
  · have ha := fewA_ok hf
    by_cases h8 : own.length > 8
    · have g8 : decide ((own.length : Int) > 8) = true := decide_eq_true (by omega)
      refine pc_of E22_ok mixed (fun _ => [0, 1, 2, 3, 6, 7, 8, 9, 10, 11, 12, 13, 14, 15, 16, 18, 27]) Try.func4 rfl (by kernel_rfl) (Nat.le_of_ble_eq_true rfl) ?_
      simp only [initF_cons, initF_nil, Nat.reduceAdd]
      refine t_name fun KF => ?_
      unfold E22
      repeat' (first
       | (with_reducible first | refine t_seq fun K => ?_ | refine t_block ?_ | refine t_scope ?_ | refine t_label ?_ | refine t_skip ?_ | refine t_exit ?_ | refine t_ret ?_ | refine t_k ?_ | refine t_gF ?_ | exact kp_nil | exact Kp.refl _ | exact kp_to | refine kp_cons ?_ | refine kp_arr ?_ | refine kp_app ?_ | refine t_p ?_ | refine t_br (fun hc => ?_) fun hc => ?_)
       | ((with_reducible first | refine t_kE ?_ | refine t_kD ?_ | refine t_gS ?_ | refine t_kL ?_ | refine t_kLF ?_ ?_ | refine t_region fun K => ?_ | refine t_cond fun A B => ?_ | refine t_draw (by kernel_rfl) fun K => ?_); simp only [go_sem, geff, con15_f, con16_f, con19_f, con20_f, con21_f, con22_f, con23_f, con24_f, con15_c, con16_c, arrV_def, arrsOf_x, arrL_cons, arrL_nil, arrOf_agg, slK_sl, hf, g8, Bool.not_true])
       | ((with_reducible refine kp_skip ?_ ?_); rfl) | simp only [thenQ, blockQ, scopeQ, Nat.reduceEqDiff, reduceIte] | (with_reducible first | refine And.intro ?_ ?_ | intro vr))
      all_goals try (intros; (try simp only [Bool.and_eq_true, Bool.or_eq_true, Bool.not_eq_true', decide_eq_true_eq, decide_eq_false_iff_not, beq_iff_eq, bne_iff_ne, ne_eq, inI64, List.length_append] at *) <;> omega)
      refine end_ret rfl ?_
      simp only [fin, go_sem]
      exact LeA.refl _
    · have g8 : decide ((own.length : Int) > 8) = false := decide_eq_false (by omega)
      have hsl := splitS_len r ha
      have hco := cellS_ok (r := r) (own := own) ha
      generalize hS : splitS a r = s at hsl
      obtain ⟨f, c, er⟩ := s
      generalize hC : cellS a r own = w at hco
      obtain ⟨ca, ce⟩ := w
      simp only at hsl hco
      have d1 := dself f
      have d2 := dself c
      have d3 := eqA_refl ca
      refine pc_of E22_ok mixed (fun _ => [0, 1, 2, 3, 6, 7, 8, 9, 10, 11, 12, 13, 14, 15, 16, 18, 27]) Try.func4 rfl (by kernel_rfl) (Nat.le_of_ble_eq_true rfl) ?_
      simp only [initF_cons, initF_nil, Nat.reduceAdd]
      refine t_name fun KF => ?_
      unfold E22
      repeat' (first
       | (with_reducible first | refine t_seq fun K => ?_ | refine t_block ?_ | refine t_scope ?_ | refine t_label ?_ | refine t_skip ?_ | refine t_exit ?_ | refine t_ret ?_ | refine t_k ?_ | refine t_gF ?_ | exact kp_nil | exact Kp.refl _ | exact kp_to | refine kp_cons ?_ | refine kp_arr ?_ | refine kp_app ?_ | refine t_p ?_ | refine t_br (fun hc => ?_) fun hc => ?_)
       | ((with_reducible first | refine t_kE ?_ | refine t_kD ?_ | refine t_gS ?_ | refine t_kL ?_ | refine t_kLF ?_ ?_ | refine t_region fun K => ?_ | refine t_cond fun A B => ?_ | refine t_draw (by kernel_rfl) fun K => ?_); simp only [go_sem, geff, con15_f, con16_f, con19_f, con20_f, con21_f, con22_f, con23_f, con24_f, con15_c, con16_c, con19_c, con20_c, con21_c, con22_c, con23_c, con24_c, arrV_def, arrsOf_x, arrL_cons, arrL_nil, arrOf_agg, slK_sl, hf, g8, hS, hC, spV_def, aeV_def, d1, d2, d3, beq_self_eq_true, Bool.not_true])
       | ((with_reducible refine kp_skip ?_ ?_); rfl) | simp only [thenQ, blockQ, scopeQ, Nat.reduceEqDiff, reduceIte] | (with_reducible first | refine And.intro ?_ ?_ | intro vr))
      all_goals try (intros; (try simp only [Bool.and_eq_true, Bool.or_eq_true, Bool.not_eq_true', decide_eq_true_eq, decide_eq_false_iff_not, beq_iff_eq, bne_iff_ne, ne_eq, inI64, List.length_append] at *) <;> omega)
      all_goals try exact ha
      all_goals try exact hr
      all_goals try exact hco
      refine end_ret rfl ?_
      simp only [fin, go_sem, beq_self_eq_true]
      exact LeA.refl _
  · have hf' : fewL [a] = false := by simpa using hf
    refine pc_of E22_ok mixed (fun _ => [0, 1, 2, 3, 6, 7, 8, 9, 10, 11, 12, 13, 14, 15, 16, 18, 27]) Try.func4 rfl (by kernel_rfl) (Nat.le_of_ble_eq_true rfl) ?_
    simp only [initF_cons, initF_nil, Nat.reduceAdd]
    refine t_name fun KF => ?_
    unfold E22
    repeat' (first
     | (with_reducible first | refine t_seq fun K => ?_ | refine t_block ?_ | refine t_scope ?_ | refine t_label ?_ | refine t_skip ?_ | refine t_exit ?_ | refine t_ret ?_ | refine t_k ?_ | refine t_gF ?_ | exact kp_nil | exact Kp.refl _ | exact kp_to | refine kp_cons ?_ | refine kp_arr ?_ | refine kp_app ?_ | refine t_p ?_ | refine t_br (fun hc => ?_) fun hc => ?_)
     | ((with_reducible first | refine t_kE ?_ | refine t_kD ?_ | refine t_gS ?_ | refine t_kL ?_ | refine t_kLF ?_ ?_ | refine t_region fun K => ?_ | refine t_cond fun A B => ?_ | refine t_draw (by kernel_rfl) fun K => ?_); simp only [go_sem, geff, con15_f, con16_f, con19_f, con20_f, con21_f, con22_f, con23_f, con24_f, con15_c, con16_c, arrV_def, arrsOf_x, arrL_cons, arrL_nil, arrOf_agg, slK_sl, hf', Bool.not_false, Bool.not_true])
     | ((with_reducible refine kp_skip ?_ ?_); rfl) | simp only [thenQ, blockQ, scopeQ, Nat.reduceEqDiff, reduceIte] | (with_reducible first | refine And.intro ?_ ?_ | intro vr))
    all_goals try (intros; (try simp only [Bool.and_eq_true, Bool.or_eq_true, Bool.not_eq_true', decide_eq_true_eq, decide_eq_false_iff_not, beq_iff_eq, bne_iff_ne, ne_eq, inI64, List.length_append] at *) <;> omega)
    refine end_ret rfl ?_
    simp only [fin, go_sem]
    exact LeA.refl _
theorem split_law : ∀ xs, ShL Try.prog Try.f4.params.toList xs → PC Try.prog 4 xs (.lit (.bool true))
  | [x, y, z], h => by
    obtain ⟨a, rfl, _⟩ := shv_arr h.1
    obtain ⟨r, rfl, hr⟩ := shv_int u3 h.2.1
    obtain ⟨own, rfl, _⟩ := shv_ints u23 u3 sz3 h.2.2.1
    exact split_law_pc (wf_i64 hr)
  | [], h => h.elim
  | [_], h => h.2.elim
  | [_, _], h => h.2.2.elim
  | _ :: _ :: _ :: _ :: _, h => h.2.2.2.elim
end Go.Proofs.Ytcjjakhmpffopaa

/- Indices of places (as for arrays). -/
namespace Go.Proofs.Ytcjjakhmpffopaa
open Go Go.Fw

/-- The digits of a number, the last place first, by the dimensions from the last one on. -/
def digR : List Int → Int → List Int
  | [], _ => []
  | d :: t, o => o.tmod d :: digR t (o.tdiv d)
def idxS (d : List Int) (o : Int) : List Int × Int := if (sizeS d).2 ≠ 0 then ([], (sizeS d).2) else if o < 0 ∨ o ≥ (sizeS d).1 then ([], 2) else ((digR d.reverse o).reverse, 0)
def ixV (p : List Int × Int) : AV := .tup [.sl false 1 (ints .i64 p.1), .lit (.int .i64 p.2)]
theorem ixV_def {p : List Int × Int} : ixV p = .tup [.sl false 1 (ints .i64 p.1), .lit (.int .i64 p.2)] := rfl
theorem ixE_le {e : Int} : LeA (.tup [.lit (.slice none 0 0), .lit (.int .i64 e)]) (ixV ([], e)) := LeA.tup ⟨LeA.nil _ _, LeA.refl _, trivial⟩
theorem digR_len : ∀ (l : List Int) (o : Int), (digR l o).length = l.length
  | [], _ => rfl
  | d :: t, o => by simp [digR, digR_len t]
theorem ints_set (l : List Int) (i : Nat) (v : Int) : (ints .i64 l).set i (.lit (.int .i64 v)) = ints .i64 (l.set i v) := by simp [ints, List.map_set]
theorem set_rep (m : Nat) (T : List Int) (v : Int) : (List.replicate (m + 1) 0 ++ T).set m v = List.replicate m 0 ++ v :: T := by
  rw [List.replicate_succ', List.append_assoc, List.set_append_right _ _ (by simp)]
  simp
theorem tdm {o d : Int} (ho : 0 ≤ o) (hd : 1 ≤ d) : 0 ≤ o.tdiv d ∧ o.tdiv d ≤ o ∧ 0 ≤ o.tmod d ∧ o.tmod d < d := by
  rw [Int.tdiv_eq_ediv_of_nonneg ho, Int.tmod_eq_emod_of_nonneg ho]
  exact ⟨Int.ediv_nonneg ho (by omega), Int.ediv_le_self _ ho, Int.emod_nonneg _ (by omega), Int.emod_lt_of_pos _ (by omega)⟩
/-- Where there is a place, no dimension is 0. -/
theorem dims_pos {d : List Int} {n o : Int} (hS : sizeS d = (n, 0)) (ho : 0 ≤ o) (hn : o < n) : ∀ x ∈ d, 1 ≤ x := by
  obtain ⟨_, h2, h3, _⟩ := sizeS_ok hS
  exact not_any_zero h2 fun h => by rw [h3, prI_zero h] at hn; omega
structure Li (d : List Int) (G : List Int) where
  i : Nat
  o : Int
  T : List Int
  hi : i ≤ d.length
  ho : 0 ≤ o ∧ o ≤ 4096
  hT : T.length = i
  hF : (digR (d.reverse.drop i) o).reverse ++ T = G
noncomputable def E72 : Env := envOf (P := Try.prog) zer (fun _ => false) (fun _ => false) [con65] []
theorem E72_ok : EnvOk Try.prog E72 := envOk zer_ok
set_option maxRecDepth 20000 in
set_option maxHeartbeats 4000000 in
theorem idx_pc {d : List Int} {o : Int} (hl : d.length ≤ 1000000) : PC Try.prog 95 [.sl false 1 (ints .i64 d), .lit (.int .i64 o)] (ixV (idxS d o)) := by
  unfold idxS
  generalize hS : sizeS d = s
  obtain ⟨n, er⟩ := s
  simp only
  by_cases e0 : er = 0
  · subst e0
    rw [if_neg (by simp)]
    by_cases o1 : o < 0
    · have o1' : decide (o < 0) = true := decide_eq_true o1
      rw [if_pos (.inl o1)]
      refine pc_of E72_ok mixed (fun _ => [0, 1, 4, 5, 6, 7, 8, 9, 10, 17, 25, 30, 31, 32]) Try.func95 rfl (by kernel_rfl) (Nat.le_of_ble_eq_true rfl) ?_
      simp only [initF_cons, initF_nil, Nat.reduceAdd]
      refine t_name fun KF => ?_
      unfold E72
      repeat' (first
       | (with_reducible first | refine t_seq fun K => ?_ | refine t_block ?_ | refine t_scope ?_ | refine t_label ?_ | refine t_skip ?_ | refine t_exit ?_ | refine t_ret ?_ | refine t_k ?_ | refine t_gF ?_ | exact kp_nil | exact Kp.refl _ | exact kp_to | refine kp_cons ?_ | refine kp_arr ?_ | refine kp_app ?_ | refine t_p ?_ | refine t_br (fun hc => ?_) fun hc => ?_)
       | ((with_reducible first | refine t_kE ?_ | refine t_kD ?_ | refine t_gS ?_ | refine t_kL ?_ | refine t_kLF ?_ ?_ | refine t_region fun K => ?_ | refine t_cond fun A B => ?_ | refine t_draw (by kernel_rfl) fun K => ?_); simp only [go_sem, geff, con65_f, con65_c, slK_sl, hS, szV_def, o1'])
       | ((with_reducible refine kp_skip ?_ ?_); rfl) | simp only [thenQ, blockQ, scopeQ, Nat.reduceEqDiff, reduceIte] | (with_reducible first | refine And.intro ?_ ?_ | intro vr))
      all_goals try (intros; (try simp only [Bool.and_eq_true, Bool.or_eq_true, Bool.not_eq_true', decide_eq_true_eq, decide_eq_false_iff_not, beq_iff_eq, bne_iff_ne, ne_eq, inI64, List.length_append] at *) <;> omega)
      refine end_ret rfl ?_
      simp only [fin, go_sem]
      exact ixE_le
    · have o1' : decide (o < 0) = false := decide_eq_false o1
      by_cases o2 : o ≥ n
      · have o2' : decide (o ≥ n) = true := decide_eq_true o2
        rw [if_pos (.inr o2)]
        refine pc_of E72_ok mixed (fun _ => [0, 1, 4, 5, 6, 7, 8, 9, 10, 17, 25, 30, 31, 32]) Try.func95 rfl (by kernel_rfl) (Nat.le_of_ble_eq_true rfl) ?_
        simp only [initF_cons, initF_nil, Nat.reduceAdd]
        refine t_name fun KF => ?_
        unfold E72
        repeat' (first
         | (with_reducible first | refine t_seq fun K => ?_ | refine t_block ?_ | refine t_scope ?_ | refine t_label ?_ | refine t_skip ?_ | refine t_exit ?_ | refine t_ret ?_ | refine t_k ?_ | refine t_gF ?_ | exact kp_nil | exact Kp.refl _ | exact kp_to | refine kp_cons ?_ | refine kp_arr ?_ | refine kp_app ?_ | refine t_p ?_ | refine t_br (fun hc => ?_) fun hc => ?_)
         | ((with_reducible first | refine t_kE ?_ | refine t_kD ?_ | refine t_gS ?_ | refine t_kL ?_ | refine t_kLF ?_ ?_ | refine t_region fun K => ?_ | refine t_cond fun A B => ?_ | refine t_draw (by kernel_rfl) fun K => ?_); simp only [go_sem, geff, con65_f, con65_c, slK_sl, hS, szV_def, o1', o2'])
         | ((with_reducible refine kp_skip ?_ ?_); rfl) | simp only [thenQ, blockQ, scopeQ, Nat.reduceEqDiff, reduceIte] | (with_reducible first | refine And.intro ?_ ?_ | intro vr))
        all_goals try (intros; (try simp only [Bool.and_eq_true, Bool.or_eq_true, Bool.not_eq_true', decide_eq_true_eq, decide_eq_false_iff_not, beq_iff_eq, bne_iff_ne, ne_eq, inI64, List.length_append] at *) <;> omega)
        refine end_ret rfl ?_
        simp only [fin, go_sem]
        exact ixE_le
      · have o2' : decide (o ≥ n) = false := decide_eq_false o2
        rw [if_neg (by omega)]
        have hn := (sizeS_ok hS).2.2.2
        have hp := dims_pos hS (by omega) (show o < n by omega)
        generalize hG : (digR d.reverse o).reverse = G
        refine pc_of E72_ok mixed (fun _ => [0, 1, 4, 5, 6, 7, 8, 9, 10, 17, 25, 30, 31, 32]) Try.func95 rfl (by kernel_rfl) (Nat.le_of_ble_eq_true rfl) ?_
        simp only [initF_cons, initF_nil, Nat.reduceAdd]
        refine t_name fun KF => ?_
        unfold E72
        repeat' (first
         | (with_reducible first | refine t_seq fun K => ?_ | refine t_block ?_ | refine t_scope ?_ | refine t_label ?_ | refine t_skip ?_ | refine t_exit ?_ | refine t_ret ?_ | refine t_k ?_ | refine t_gF ?_ | exact kp_nil | exact Kp.refl _ | exact kp_to | refine kp_cons ?_ | refine kp_arr ?_ | refine kp_app ?_ | refine t_p ?_ | refine t_br (fun hc => ?_) fun hc => ?_)
         | ((with_reducible first | refine t_kE ?_ | refine t_kD ?_ | refine t_gS ?_ | refine t_kL ?_ | refine t_kLF ?_ ?_ | refine t_region fun K => ?_ | refine t_cond fun A B => ?_ | refine t_draw (by kernel_rfl) fun K => ?_); simp only [go_sem, geff, con65_f, con65_c, slK_sl, hS, szV_def, o1', o2', rep_ints, Int.toNat_natCast])
         | ((with_reducible refine kp_skip ?_ ?_); rfl) | simp only [thenQ, blockQ, scopeQ, Nat.reduceEqDiff, reduceIte] | (with_reducible first | refine And.intro ?_ ?_ | intro vr))
        all_goals try (intros; (try simp only [Bool.and_eq_true, Bool.or_eq_true, Bool.not_eq_true', decide_eq_true_eq, decide_eq_false_iff_not, beq_iff_eq, bne_iff_ne, ne_eq, inI64, List.length_append] at *) <;> omega)
        refine t_loop (ι := Li d G) (fun i => ⟨upd (upd (upd (upd (upd topF 8 (.arr 0 0)) 1 (.lit (.int .i64 i.o))) 0 (.sl false 1 (ints .i64 d))) 31 (.lit (.int .i64 i.i))) 30 (.lit (.int .i64 d.length)), [.arr 3 1 (ints .i64 (List.replicate (d.length - i.i) 0 ++ i.T)) 0 false]⟩) (fun i => d.length - i.i) ⟨0, o, [], by omega, by omega, rfl, by simpa using hG⟩ ?_ ?_
        · skip
          (refine Le.frameS ?gs1 ?_; rotate_left; repeat' (first | exact leF_top _ | (with_reducible refine leF_sl ?_ ?_) | (refine leF_upd (LeR.of_eq ?_) ?_))) <;> (try (simp only [go_sem]; try rfl))
          all_goals (first | omega | simp)
        · rintro ⟨i, v, T, hi, hv, hT, hF⟩ K0
          rcases Nat.lt_or_ge i d.length with hc | hc
          · have g1 : decide ((i : Int) < (d.length : Int)) = true := decide_eq_true (by omega)
            have hi1 : ((d.length : Int) - 1 - (i : Int)).toNat = d.length - 1 - i := by omega
            have g2 := ints_getD .i64 d (d.length - 1 - i) (by omega)
            have hq := hp _ (getD_mem 0 (show d.length - 1 - i < d.length by omega))
            have hrv : d.reverse.drop i = d.getD (d.length - 1 - i) 0 :: d.reverse.drop (i + 1) := by
              rw [List.drop_eq_getElem_cons (by simpa using hc), List.getElem_reverse, List.getD_eq_getElem?_getD, List.getElem?_eq_getElem (by omega)]
              rfl
            rw [hrv, digR, List.reverse_cons, List.append_assoc] at hF
            generalize d.getD (d.length - 1 - i) 0 = q at g2 hq hF
            have z1 : (q == 0) = false := by rw [beq_eq_false_iff_ne]; omega
            have ht := tdm hv.1 hq
            have hst : (List.replicate (d.length - i) 0 ++ T).set (d.length - 1 - i) (v.tmod q) = List.replicate (d.length - (i + 1)) 0 ++ v.tmod q :: T := by
              have := set_rep (d.length - 1 - i) T (v.tmod q)
              rwa [show d.length - 1 - i + 1 = d.length - i by omega, show List.replicate (d.length - 1 - i) (0 : Int) = List.replicate (d.length - (i + 1)) 0 by congr 1; omega] at this
            have hln : (List.replicate (d.length - i) (0 : Int) ++ T).length = d.length := by simp [hT]; omega
            repeat' (first
             | (with_reducible first | refine t_seq fun K => ?_ | refine t_block ?_ | refine t_scope ?_ | refine t_label ?_ | refine t_skip ?_ | refine t_exit ?_ | refine t_ret ?_ | refine t_k ?_ | refine t_gF ?_ | exact kp_nil | exact Kp.refl _ | exact kp_to | refine kp_cons ?_ | refine kp_arr ?_ | refine kp_app ?_ | refine t_p ?_ | refine t_br (fun hc => ?_) fun hc => ?_)
             | ((with_reducible first | refine t_kE ?_ | refine t_kD ?_ | refine t_gS ?_ | refine t_kL ?_ | refine t_kLF ?_ ?_ | refine t_region fun K => ?_ | refine t_cond fun A B => ?_ | refine t_draw (by kernel_rfl) fun K => ?_); simp only [go_sem, geff, con65_f, g1, hi1, g2, z1, ints_set, hst, hln, ints_length, Int.toNat_natCast])
             | ((with_reducible refine kp_skip ?_ ?_); rfl) | simp only [thenQ, blockQ, scopeQ, Nat.reduceEqDiff, reduceIte] | (with_reducible first | refine And.intro ?_ ?_ | intro vr))
            all_goals try (intros; (try simp only [Bool.and_eq_true, Bool.or_eq_true, Bool.not_eq_true', decide_eq_true_eq, decide_eq_false_iff_not, beq_iff_eq, bne_iff_ne, ne_eq, inI64, List.length_append] at *) <;> omega)
            refine ⟨⟨i + 1, v.tdiv q, v.tmod q :: T, by omega, by omega, by simp [hT], hF⟩, by simp only; omega, ?_⟩
            (refine Le.frame ?_; repeat' (first | exact leF_top _ | (with_reducible refine leF_sl ?_ ?_) | (refine leF_upd (LeR.of_eq ?_) ?_))) <;> (try (simp only [go_sem]; try rfl))
            
          · have g1 : decide ((i : Int) < (d.length : Int)) = false := decide_eq_false (by omega)
            have : i = d.length := by omega
            subst this
            rw [List.drop_eq_nil_of_le (by simp), digR] at hF
            simp only [List.reverse_nil, List.nil_append] at hF
            subst hF
            repeat' (first
             | (with_reducible first | refine t_seq fun K => ?_ | refine t_block ?_ | refine t_scope ?_ | refine t_label ?_ | refine t_skip ?_ | refine t_exit ?_ | refine t_ret ?_ | refine t_k ?_ | refine t_gF ?_ | exact kp_nil | exact Kp.refl _ | exact kp_to | refine kp_cons ?_ | refine kp_arr ?_ | refine kp_app ?_ | refine t_p ?_ | refine t_br (fun hc => ?_) fun hc => ?_)
             | ((with_reducible first | refine t_kE ?_ | refine t_kD ?_ | refine t_gS ?_ | refine t_kL ?_ | refine t_kLF ?_ ?_ | refine t_region fun K => ?_ | refine t_cond fun A B => ?_ | refine t_draw (by kernel_rfl) fun K => ?_); simp only [go_sem, geff, con65_f, g1, Nat.sub_self, List.replicate_zero])
             | ((with_reducible refine kp_skip ?_ ?_); rfl) | simp only [thenQ, blockQ, scopeQ, Nat.reduceEqDiff, reduceIte] | (with_reducible first | refine And.intro ?_ ?_ | intro vr))
            refine end_ret rfl ?_
            simp only [fin, go_sem]
            exact LeA.refl _
  · have e1 : (er != 0) = true := bne_iff_ne.2 e0
    rw [if_pos e0]
    refine pc_of E72_ok mixed (fun _ => [0, 1, 4, 5, 6, 7, 8, 9, 10, 17, 25, 30, 31, 32]) Try.func95 rfl (by kernel_rfl) (Nat.le_of_ble_eq_true rfl) ?_
    simp only [initF_cons, initF_nil, Nat.reduceAdd]
    refine t_name fun KF => ?_
    unfold E72
    repeat' (first
     | (with_reducible first | refine t_seq fun K => ?_ | refine t_block ?_ | refine t_scope ?_ | refine t_label ?_ | refine t_skip ?_ | refine t_exit ?_ | refine t_ret ?_ | refine t_k ?_ | refine t_gF ?_ | exact kp_nil | exact Kp.refl _ | exact kp_to | refine kp_cons ?_ | refine kp_arr ?_ | refine kp_app ?_ | refine t_p ?_ | refine t_br (fun hc => ?_) fun hc => ?_)
     | ((with_reducible first | refine t_kE ?_ | refine t_kD ?_ | refine t_gS ?_ | refine t_kL ?_ | refine t_kLF ?_ ?_ | refine t_region fun K => ?_ | refine t_cond fun A B => ?_ | refine t_draw (by kernel_rfl) fun K => ?_); simp only [go_sem, geff, con65_f, con65_c, slK_sl, hS, szV_def, e1])
     | ((with_reducible refine kp_skip ?_ ?_); rfl) | simp only [thenQ, blockQ, scopeQ, Nat.reduceEqDiff, reduceIte] | (with_reducible first | refine And.intro ?_ ?_ | intro vr))
    all_goals try (intros; (try simp only [Bool.and_eq_true, Bool.or_eq_true, Bool.not_eq_true', decide_eq_true_eq, decide_eq_false_iff_not, beq_iff_eq, bne_iff_ne, ne_eq, inI64, List.length_append] at *) <;> omega)
    refine end_ret rfl ?_
    simp only [fin, go_sem]
    exact ixE_le
noncomputable def con95 : PCon Try.prog where
  f := 95
  c := fun
    | [xd, .lit (.int .i64 o)] => match slK .i64 xd with | some d => some (d.length ≤ 1000000, ixV (idxS d o)) | _ => none
    | _ => none
  ok := by
    intro args p r hc hp
    split at hc
    · split at hc
      · rename_i hd
        cases hc
        exact PC.weak ((fun hp : _ => idx_pc hp) hp) ⟨slK_le hd, LeA.refl _, trivial⟩
      · cases hc
    · cases hc
  fk := fk95
theorem con95_f : con95.f = 95 := rfl
theorem con95_c {xd : AV} {o : Int} : con95.c [xd, .lit (.int .i64 o)] = match slK .i64 xd with | some d => some (d.length ≤ 1000000, ixV (idxS d o)) | _ => none := rfl
noncomputable def E73 : Env := envOf (P := Try.prog) zer (fun _ => false) (fun _ => false) [con30] []
theorem E73_ok : EnvOk Try.prog E73 := envOk zer_ok
set_option maxRecDepth 20000 in
set_option maxHeartbeats 4000000 in
theorem ridx_pc {d : List Int} {o : Int} (hl : d.length ≤ 1000000) : PC Try.prog 71 [.sl false 1 (ints .i64 d), .lit (.int .i64 o)] (ixV (idxS d o)) := by
  unfold idxS
  generalize hS : sizeS d = s
  obtain ⟨n, er⟩ := s
  simp only
  by_cases e0 : er = 0
  · subst e0
    rw [if_neg (by simp)]
    by_cases o1 : o < 0
    · have o1' : decide (o < 0) = true := decide_eq_true o1
      rw [if_pos (.inl o1)]
      refine pc_of E73_ok mixed (fun _ => [0, 1, 4, 5, 6, 7, 8, 9, 16, 24, 32]) Try.func71 rfl (by kernel_rfl) (Nat.le_of_ble_eq_true rfl) ?_
      simp only [initF_cons, initF_nil, Nat.reduceAdd]
      refine t_name fun KF => ?_
      unfold E73
      repeat' (first
       | (with_reducible first | refine t_seq fun K => ?_ | refine t_block ?_ | refine t_scope ?_ | refine t_label ?_ | refine t_skip ?_ | refine t_exit ?_ | refine t_ret ?_ | refine t_k ?_ | refine t_gF ?_ | exact kp_nil | exact Kp.refl _ | exact kp_to | refine kp_cons ?_ | refine kp_arr ?_ | refine kp_app ?_ | refine t_p ?_ | refine t_br (fun hc => ?_) fun hc => ?_)
       | ((with_reducible first | refine t_kE ?_ | refine t_kD ?_ | refine t_gS ?_ | refine t_kL ?_ | refine t_kLF ?_ ?_ | refine t_region fun K => ?_ | refine t_cond fun A B => ?_ | refine t_draw (by kernel_rfl) fun K => ?_); simp only [go_sem, geff, con30_f, con30_c, slK_sl, hS, szV_def, o1'])
       | ((with_reducible refine kp_skip ?_ ?_); rfl) | simp only [thenQ, blockQ, scopeQ, Nat.reduceEqDiff, reduceIte] | (with_reducible first | refine And.intro ?_ ?_ | intro vr))
      all_goals try (intros; (try simp only [Bool.and_eq_true, Bool.or_eq_true, Bool.not_eq_true', decide_eq_true_eq, decide_eq_false_iff_not, beq_iff_eq, bne_iff_ne, ne_eq, inI64, List.length_append] at *) <;> omega)
      refine end_ret rfl ?_
      simp only [fin, go_sem]
      exact ixE_le
    · have o1' : decide (o < 0) = false := decide_eq_false o1
      by_cases o2 : o ≥ n
      · have o2' : decide (o ≥ n) = true := decide_eq_true o2
        rw [if_pos (.inr o2)]
        refine pc_of E73_ok mixed (fun _ => [0, 1, 4, 5, 6, 7, 8, 9, 16, 24, 32]) Try.func71 rfl (by kernel_rfl) (Nat.le_of_ble_eq_true rfl) ?_
        simp only [initF_cons, initF_nil, Nat.reduceAdd]
        refine t_name fun KF => ?_
        unfold E73
        repeat' (first
         | (with_reducible first | refine t_seq fun K => ?_ | refine t_block ?_ | refine t_scope ?_ | refine t_label ?_ | refine t_skip ?_ | refine t_exit ?_ | refine t_ret ?_ | refine t_k ?_ | refine t_gF ?_ | exact kp_nil | exact Kp.refl _ | exact kp_to | refine kp_cons ?_ | refine kp_arr ?_ | refine kp_app ?_ | refine t_p ?_ | refine t_br (fun hc => ?_) fun hc => ?_)
         | ((with_reducible first | refine t_kE ?_ | refine t_kD ?_ | refine t_gS ?_ | refine t_kL ?_ | refine t_kLF ?_ ?_ | refine t_region fun K => ?_ | refine t_cond fun A B => ?_ | refine t_draw (by kernel_rfl) fun K => ?_); simp only [go_sem, geff, con30_f, con30_c, slK_sl, hS, szV_def, o1', o2'])
         | ((with_reducible refine kp_skip ?_ ?_); rfl) | simp only [thenQ, blockQ, scopeQ, Nat.reduceEqDiff, reduceIte] | (with_reducible first | refine And.intro ?_ ?_ | intro vr))
        all_goals try (intros; (try simp only [Bool.and_eq_true, Bool.or_eq_true, Bool.not_eq_true', decide_eq_true_eq, decide_eq_false_iff_not, beq_iff_eq, bne_iff_ne, ne_eq, inI64, List.length_append] at *) <;> omega)
        refine end_ret rfl ?_
        simp only [fin, go_sem]
        exact ixE_le
      · have o2' : decide (o ≥ n) = false := decide_eq_false o2
        rw [if_neg (by omega)]
        have hn := (sizeS_ok hS).2.2.2
        have hp := dims_pos hS (by omega) (show o < n by omega)
        generalize hG : (digR d.reverse o).reverse = G
        refine pc_of E73_ok mixed (fun _ => [0, 1, 4, 5, 6, 7, 8, 9, 16, 24, 32]) Try.func71 rfl (by kernel_rfl) (Nat.le_of_ble_eq_true rfl) ?_
        simp only [initF_cons, initF_nil, Nat.reduceAdd]
        refine t_name fun KF => ?_
        unfold E73
        repeat' (first
         | (with_reducible first | refine t_seq fun K => ?_ | refine t_block ?_ | refine t_scope ?_ | refine t_label ?_ | refine t_skip ?_ | refine t_exit ?_ | refine t_ret ?_ | refine t_k ?_ | refine t_gF ?_ | exact kp_nil | exact Kp.refl _ | exact kp_to | refine kp_cons ?_ | refine kp_arr ?_ | refine kp_app ?_ | refine t_p ?_ | refine t_br (fun hc => ?_) fun hc => ?_)
         | ((with_reducible first | refine t_kE ?_ | refine t_kD ?_ | refine t_gS ?_ | refine t_kL ?_ | refine t_kLF ?_ ?_ | refine t_region fun K => ?_ | refine t_cond fun A B => ?_ | refine t_draw (by kernel_rfl) fun K => ?_); simp only [go_sem, geff, con30_f, con30_c, slK_sl, hS, szV_def, o1', o2', rep_ints, Int.toNat_natCast])
         | ((with_reducible refine kp_skip ?_ ?_); rfl) | simp only [thenQ, blockQ, scopeQ, Nat.reduceEqDiff, reduceIte] | (with_reducible first | refine And.intro ?_ ?_ | intro vr))
        all_goals try (intros; (try simp only [Bool.and_eq_true, Bool.or_eq_true, Bool.not_eq_true', decide_eq_true_eq, decide_eq_false_iff_not, beq_iff_eq, bne_iff_ne, ne_eq, inI64, List.length_append] at *) <;> omega)
        refine t_loop (ι := Li d G) (fun i => ⟨upd (upd (upd (upd topF 8 (.arr 0 0)) 1 (.lit (.int .i64 i.o))) 0 (.sl false 1 (ints .i64 d))) 9 (.lit (.int .i64 ((d.length : Int) - 1 - i.i))), [.arr 3 1 (ints .i64 (List.replicate (d.length - i.i) 0 ++ i.T)) 0 false]⟩) (fun i => d.length - i.i) ⟨0, o, [], by omega, by omega, rfl, by simpa using hG⟩ ?_ ?_
        · skip
          (refine Le.frameS ?gs2 ?_; rotate_left; repeat' (first | exact leF_top _ | (with_reducible refine leF_sl ?_ ?_) | (refine leF_upd (LeR.of_eq ?_) ?_))) <;> (try (simp only [go_sem]; try rfl))
          all_goals (first | omega | simp)
        · rintro ⟨i, v, T, hi, hv, hT, hF⟩ K0
          rcases Nat.lt_or_ge i d.length with hc | hc
          · have g1 : decide ((d.length : Int) - 1 - (i : Int) ≥ 0) = true := decide_eq_true (by omega)
            have hi1 : ((d.length : Int) - 1 - (i : Int)).toNat = d.length - 1 - i := by omega
            have g2 := ints_getD .i64 d (d.length - 1 - i) (by omega)
            have hq := hp _ (getD_mem 0 (show d.length - 1 - i < d.length by omega))
            have hrv : d.reverse.drop i = d.getD (d.length - 1 - i) 0 :: d.reverse.drop (i + 1) := by
              rw [List.drop_eq_getElem_cons (by simpa using hc), List.getElem_reverse, List.getD_eq_getElem?_getD, List.getElem?_eq_getElem (by omega)]
              rfl
            rw [hrv, digR, List.reverse_cons, List.append_assoc] at hF
            generalize d.getD (d.length - 1 - i) 0 = q at g2 hq hF
            have z1 : (q == 0) = false := by rw [beq_eq_false_iff_ne]; omega
            have ht := tdm hv.1 hq
            have hst : (List.replicate (d.length - i) 0 ++ T).set (d.length - 1 - i) (v.tmod q) = List.replicate (d.length - (i + 1)) 0 ++ v.tmod q :: T := by
              have := set_rep (d.length - 1 - i) T (v.tmod q)
              rwa [show d.length - 1 - i + 1 = d.length - i by omega, show List.replicate (d.length - 1 - i) (0 : Int) = List.replicate (d.length - (i + 1)) 0 by congr 1; omega] at this
            have hln : (List.replicate (d.length - i) (0 : Int) ++ T).length = d.length := by simp [hT]; omega
            repeat' (first
             | (with_reducible first | refine t_seq fun K => ?_ | refine t_block ?_ | refine t_scope ?_ | refine t_label ?_ | refine t_skip ?_ | refine t_exit ?_ | refine t_ret ?_ | refine t_k ?_ | refine t_gF ?_ | exact kp_nil | exact Kp.refl _ | exact kp_to | refine kp_cons ?_ | refine kp_arr ?_ | refine kp_app ?_ | refine t_p ?_ | refine t_br (fun hc => ?_) fun hc => ?_)
             | ((with_reducible first | refine t_kE ?_ | refine t_kD ?_ | refine t_gS ?_ | refine t_kL ?_ | refine t_kLF ?_ ?_ | refine t_region fun K => ?_ | refine t_cond fun A B => ?_ | refine t_draw (by kernel_rfl) fun K => ?_); simp only [go_sem, geff, con30_f, g1, hi1, g2, z1, ints_set, hst, hln, ints_length, Int.toNat_natCast])
             | ((with_reducible refine kp_skip ?_ ?_); rfl) | simp only [thenQ, blockQ, scopeQ, Nat.reduceEqDiff, reduceIte] | (with_reducible first | refine And.intro ?_ ?_ | intro vr))
            all_goals try (intros; (try simp only [Bool.and_eq_true, Bool.or_eq_true, Bool.not_eq_true', decide_eq_true_eq, decide_eq_false_iff_not, beq_iff_eq, bne_iff_ne, ne_eq, inI64, List.length_append] at *) <;> omega)
            refine ⟨⟨i + 1, v.tdiv q, v.tmod q :: T, by omega, by omega, by simp [hT], hF⟩, by simp only; omega, ?_⟩
            (refine Le.frame ?_; repeat' (first | exact leF_top _ | (with_reducible refine leF_sl ?_ ?_) | (refine leF_upd (LeR.of_eq ?_) ?_))) <;> (try (simp only [go_sem]; try rfl))
            omega
          · have g1 : decide ((d.length : Int) - 1 - (i : Int) ≥ 0) = false := decide_eq_false (by omega)
            have : i = d.length := by omega
            subst this
            rw [List.drop_eq_nil_of_le (by simp), digR] at hF
            simp only [List.reverse_nil, List.nil_append] at hF
            subst hF
            repeat' (first
             | (with_reducible first | refine t_seq fun K => ?_ | refine t_block ?_ | refine t_scope ?_ | refine t_label ?_ | refine t_skip ?_ | refine t_exit ?_ | refine t_ret ?_ | refine t_k ?_ | refine t_gF ?_ | exact kp_nil | exact Kp.refl _ | exact kp_to | refine kp_cons ?_ | refine kp_arr ?_ | refine kp_app ?_ | refine t_p ?_ | refine t_br (fun hc => ?_) fun hc => ?_)
             | ((with_reducible first | refine t_kE ?_ | refine t_kD ?_ | refine t_gS ?_ | refine t_kL ?_ | refine t_kLF ?_ ?_ | refine t_region fun K => ?_ | refine t_cond fun A B => ?_ | refine t_draw (by kernel_rfl) fun K => ?_); simp only [go_sem, geff, con30_f, g1, Nat.sub_self, List.replicate_zero])
             | ((with_reducible refine kp_skip ?_ ?_); rfl) | simp only [thenQ, blockQ, scopeQ, Nat.reduceEqDiff, reduceIte] | (with_reducible first | refine And.intro ?_ ?_ | intro vr))
            refine end_ret rfl ?_
            simp only [fin, go_sem]
            exact LeA.refl _
  · have e1 : (er != 0) = true := bne_iff_ne.2 e0
    rw [if_pos e0]
    refine pc_of E73_ok mixed (fun _ => [0, 1, 4, 5, 6, 7, 8, 9, 16, 24, 32]) Try.func71 rfl (by kernel_rfl) (Nat.le_of_ble_eq_true rfl) ?_
    simp only [initF_cons, initF_nil, Nat.reduceAdd]
    refine t_name fun KF => ?_
    unfold E73
    repeat' (first
     | (with_reducible first | refine t_seq fun K => ?_ | refine t_block ?_ | refine t_scope ?_ | refine t_label ?_ | refine t_skip ?_ | refine t_exit ?_ | refine t_ret ?_ | refine t_k ?_ | refine t_gF ?_ | exact kp_nil | exact Kp.refl _ | exact kp_to | refine kp_cons ?_ | refine kp_arr ?_ | refine kp_app ?_ | refine t_p ?_ | refine t_br (fun hc => ?_) fun hc => ?_)
     | ((with_reducible first | refine t_kE ?_ | refine t_kD ?_ | refine t_gS ?_ | refine t_kL ?_ | refine t_kLF ?_ ?_ | refine t_region fun K => ?_ | refine t_cond fun A B => ?_ | refine t_draw (by kernel_rfl) fun K => ?_); simp only [go_sem, geff, con30_f, con30_c, slK_sl, hS, szV_def, e1])
     | ((with_reducible refine kp_skip ?_ ?_); rfl) | simp only [thenQ, blockQ, scopeQ, Nat.reduceEqDiff, reduceIte] | (with_reducible first | refine And.intro ?_ ?_ | intro vr))
    all_goals try (intros; (try simp only [Bool.and_eq_true, Bool.or_eq_true, Bool.not_eq_true', decide_eq_true_eq, decide_eq_false_iff_not, beq_iff_eq, bne_iff_ne, ne_eq, inI64, List.length_append] at *) <;> omega)
    refine end_ret rfl ?_
    simp only [fin, go_sem]
    exact ixE_le
noncomputable def con71 : PCon Try.prog where
  f := 71
  c := fun
    | [xd, .lit (.int .i64 o)] => match slK .i64 xd with | some d => some (d.length ≤ 1000000, ixV (idxS d o)) | _ => none
    | _ => none
  ok := by
    intro args p r hc hp
    split at hc
    · split at hc
      · rename_i hd
        cases hc
        exact PC.weak ((fun hp : _ => ridx_pc hp) hp) ⟨slK_le hd, LeA.refl _, trivial⟩
      · cases hc
    · cases hc
  fk := fk71
theorem con71_f : con71.f = 71 := rfl
theorem con71_c {xd : AV} {o : Int} : con71.c [xd, .lit (.int .i64 o)] = match slK .i64 xd with | some d => some (d.length ≤ 1000000, ixV (idxS d o)) | _ => none := rfl
end Go.Proofs.Ytcjjakhmpffopaa

/- Which slots live behind each region, made by program (keeps2.py). -/
namespace Go.Proofs.Ytcjjakhmpffopaa
def kp7 (i : Nat) : List Nat := if i < 13 then if i < 6 then if i < 3 then if i < 1 then [0, 1, 5] else if i < 2 then [0, 1, 5, 21] else [6] else if i < 4 then [0, 1, 5, 34] else if i < 5 then [6] else [0, 1, 5, 35, 36, 37] else if i < 9 then if i < 7 then [0, 1, 5, 35, 36, 37, 38] else if i < 8 then [0, 1, 5, 8, 35, 36, 37] else [0, 1, 5, 35, 36, 37, 43] else if i < 11 then if i < 10 then [6] else [0, 1, 5, 35, 36, 37] else if i < 12 then [0, 1, 5, 9, 10] else [0, 1, 5, 55] else if i < 20 then if i < 16 then if i < 14 then [6] else if i < 15 then [0, 1, 5, 11, 12] else [0, 11, 12, 13, 14] else if i < 18 then if i < 17 then [0, 11, 12, 13, 14, 15, 16] else [11, 12, 13, 14, 15, 16, 17, 18] else if i < 19 then [15, 17, 100] else [6] else if i < 23 then if i < 21 then [15, 17, 102, 103] else if i < 22 then [15, 17, 102, 103, 104] else [15, 17, 19, 102, 103] else if i < 25 then if i < 24 then [15, 17, 102, 103, 115] else [6] else if i < 26 then [15, 17, 102, 103] else [6]
def kp32 (i : Nat) : List Nat := if i < 11 then if i < 5 then if i < 2 then if i < 1 then [0, 1, 5, 6] else [0, 1, 5, 6, 21] else if i < 3 then [6, 7] else if i < 4 then [0, 1, 5, 6, 8, 9] else [0, 1, 5, 6, 8, 9, 28] else if i < 8 then if i < 6 then [6, 7] else if i < 7 then [0, 1, 5, 6, 33] else [6, 7] else if i < 9 then [1, 5, 6, 10] else if i < 10 then [5, 6, 10, 47, 48, 49] else [5, 6, 10, 47, 48, 49, 50] else if i < 16 then if i < 13 then if i < 12 then [5, 6, 10, 12, 47, 48, 49] else [5, 6, 10, 12, 47, 48, 49, 53] else if i < 14 then [6, 7] else if i < 15 then [5, 6, 10, 12, 47, 48, 49, 60] else [6, 7] else if i < 19 then if i < 17 then [5, 6, 10, 47, 48, 49] else if i < 18 then [5, 6, 10, 47, 48, 49] else [6, 10, 14] else if i < 20 then [6, 10, 14, 82] else if i < 21 then [6, 7] else [6, 7]
def kp33 (i : Nat) : List Nat := if i < 13 then if i < 6 then if i < 3 then if i < 1 then [0, 1, 5, 6] else if i < 2 then [0, 1, 5, 6, 18] else [6, 7] else if i < 4 then [0, 1, 5, 6, 8] else if i < 5 then [0, 1, 5, 6, 8, 23] else [0, 1, 5, 6, 8] else if i < 9 then if i < 7 then [0, 1, 5, 6, 8, 31] else if i < 8 then [6, 7] else [0, 1, 5, 6, 9, 10] else if i < 11 then if i < 10 then [0, 1, 5, 6, 9, 10, 39] else [6, 7] else if i < 12 then [0, 1, 5, 6, 9, 45] else [6, 7] else if i < 20 then if i < 16 then if i < 14 then [0, 1, 5, 6, 9, 11] else if i < 15 then [0, 1, 5, 6, 9, 11, 12] else [0, 1, 5, 6, 9, 11, 12, 49] else if i < 18 then if i < 17 then [0, 1, 5, 6, 9, 11, 12] else [0, 1, 5, 6, 9, 11, 12, 59] else if i < 19 then [6, 7] else [0, 1, 5, 6, 9, 11, 12, 69] else if i < 23 then if i < 21 then [6, 7] else if i < 22 then [0, 1, 5, 6, 9, 11, 12] else [5, 6, 11, 13] else if i < 25 then if i < 24 then [5, 6, 11, 13, 15] else [5, 6, 11, 13, 15, 89] else if i < 26 then [6, 7] else [6, 7]
def kp35 (i : Nat) : List Nat := if i < 5 then if i < 2 then if i < 1 then [0] else [0, 4, 5] else if i < 3 then [0, 4, 5, 16] else if i < 4 then [2, 3] else [0, 4, 6] else if i < 8 then if i < 6 then [0, 4, 6, 7] else if i < 7 then [0, 4, 6, 7, 20] else [0, 4, 6, 7] else if i < 9 then [0, 4, 6, 7, 8] else if i < 10 then [0, 4, 6, 7] else [2, 3]
def kp62 (i : Nat) : List Nat := if i < 1 then [0] else [2]
def kp67 (i : Nat) : List Nat := if i < 1 then [0, 1] else [4]
def kp68 (i : Nat) : List Nat := if i < 1 then [1] else [2]
def kp69 (i : Nat) : List Nat := if i < 8 then if i < 4 then if i < 2 then if i < 1 then [0] else [0, 3] else if i < 3 then [0, 3, 9, 10, 11] else [0, 3, 9, 10, 11, 12] else if i < 6 then if i < 5 then [0, 3, 5, 9, 10, 11] else [0, 3, 9, 10, 11] else if i < 7 then [0, 3, 9, 10, 11, 20] else [0, 3, 9, 10, 11] else if i < 12 then if i < 10 then if i < 9 then [0, 3, 9, 10, 11] else [0, 6] else if i < 11 then [6, 25, 26, 27] else [6, 25, 26, 27, 28] else if i < 14 then if i < 13 then [6, 8, 25, 26, 27] else [6, 25, 26, 27] else if i < 15 then [6, 25, 26, 27] else [2]
def kp92 (i : Nat) : List Nat := if i < 4 then if i < 2 then if i < 1 then [0, 1] else [0, 1, 7, 8] else if i < 3 then [0, 1, 7, 8, 9] else [0, 1, 5, 7, 8] else if i < 6 then if i < 5 then [0, 1, 5, 7, 8, 16] else [4] else if i < 7 then [0, 1, 7, 8] else [4]
end Go.Proofs.Ytcjjakhmpffopaa

/- Lists of lists; axes. -/
namespace Go.Proofs.Ytcjjakhmpffopaa
open Go Go.Fw

def ilA (l : List Int) : AV := .sl false 1 (ints .i64 l)
def ils (L : List (List Int)) : List AV := L.map ilA
theorem ils_length (L : List (List Int)) : (ils L).length = L.length := by simp [ils]
theorem ils_getD (L : List (List Int)) (i : Nat) (h : i < L.length) : (ils L).getD i .top = .sl false 1 (ints .i64 (L.getD i [])) := by simp [ils, ilA, List.getD, h]
theorem ils_app (L : List (List Int)) (l : List Int) : ils L ++ [.sl false 1 (ints .i64 l)] = ils (L ++ [l]) := by simp [ils, ilA]
def ilL : List AV → Option (List (List Int))
  | [] => some []
  | x :: xs => match slK .i64 x, ilL xs with
    | some a, some l => some (a :: l)
    | _, _ => none
theorem ilL_nil : ilL [] = some [] := rfl
theorem ilL_cons {x : AV} {xs : List AV} : ilL (x :: xs) = match slK .i64 x, ilL xs with
    | some a, some l => some (a :: l)
    | _, _ => none := rfl
theorem ilL_ils : ∀ l : List (List Int), ilL (ils l) = some l
  | [] => rfl
  | a :: l => by
    have := ilL_ils l
    unfold ils at this ⊢
    rw [List.map_cons, ilL_cons, ilA, slK_sl, this]
theorem slK_cells {x : AV} {l : List Int} (h : slK .i64 x = some l) : x.cells = [x] := by
  unfold slK slA at h
  split at h
  · rfl
  · rfl
  · cases h
theorem ilL_inv : ∀ {xs : List AV} {l : List (List Int)}, ilL xs = some l → xs.length = l.length ∧ LeL (flat xs) (flat (ils l))
  | [], l, h => by cases h; exact ⟨rfl, trivial⟩
  | x :: xs, l, h => by
    rw [ilL_cons] at h
    split at h
    · rename_i a m h1 h2
      cases h
      obtain ⟨e1, e2⟩ := ilL_inv h2
      refine ⟨by simp [e1], ?_⟩
      have : LeL (AV.cells x) (AV.cells (ilA a)) := by rw [slK_cells h1]; exact ⟨slK_le h1, trivial⟩
      exact LeL.append this e2
    · cases h
theorem ils_wid (l : List (List Int)) : ∀ y ∈ ils l, y.cells.length = 1 := by
  intro y hy
  obtain ⟨a, _, rfl⟩ := List.mem_map.1 hy
  rfl
def ilsOf (x : AV) : Option (List (List Int)) := (slA 1 x).bind ilL
theorem ilsOf_le {x : AV} {l : List (List Int)} (h : ilsOf x = some l) : LeA x (.sl false 1 (ils l)) := by
  unfold ilsOf at h
  cases hx : slA 1 x with
  | none => rw [hx] at h; cases h
  | some xs =>
    rw [hx] at h
    obtain ⟨h1, h2⟩ := ilL_inv (l := l) h
    intro C v hv
    exact LeA.sl (b := false) (by rw [ils_length]; exact h1) (ils_wid l) h2 C v (slA_le hx C v hv)
theorem ilsOf_nil : ilsOf (.lit (.slice none 0 0)) = some [] := rfl
theorem ilsOf_sl {b : Bool} {l : List (List Int)} : ilsOf (.sl b 1 (ils l)) = some l := by simp [ilsOf, slA, ilL_ils]
theorem list_ils : ∀ {ys : List AV}, (∀ y ∈ ys, ∃ a, y = ilA a) → ∃ l : List (List Int), ys = ils l
  | [], _ => ⟨[], rfl⟩
  | y :: ys, h => by
    obtain ⟨n, rfl⟩ := h y (by simp)
    obtain ⟨l, rfl⟩ := list_ils (ys := ys) fun z hz => h z (by simp [hz])
    exact ⟨n :: l, rfl⟩
theorem sh_ils {xs : List AV} (h : Sh Try.prog 40 xs) : ∃ l : List (List Int), xs = [.sl false 1 (ils l)] ∧ l.length ≤ maxLen := by
  obtain ⟨ys, rfl, hl, hy⟩ := sh_slice u40 h
  obtain ⟨l, rfl⟩ := list_ils fun y hm => by
    obtain ⟨l, rfl, _⟩ := shv_ints u23 u3 sz3 (hy y hm)
    exact ⟨l, rfl⟩
  exact ⟨l, by rw [sz23], by simpa [ils] using hl⟩

/-! ### Axes -/
def axOk (n : Int) (axes : List Int) (i : Nat) : Bool := !decide (axes.getD i 0 < 0) && (!decide (axes.getD i 0 ≥ n) && !(decide ((i : Int) > 0) && decide (axes.getD (i - 1) 0 ≥ axes.getD i 0)))
def axP (n : Int) (axes : List Int) : Prop := ∀ i, i < axes.length → axOk n axes i = true
instance (n : Int) (axes : List Int) : Decidable (axP n axes) := inferInstanceAs (Decidable (∀ i, i < axes.length → axOk n axes i = true))
def pickM (list axes : List Int) : List Int := axes.map fun a => list.getD a.toNat 0
def pickS (list axes : List Int) : Option (List Int) := if axP list.length axes then some (pickM list axes) else none
theorem axP_no {n : Int} {axes : List Int} {i : Nat} (h : i < axes.length) (hb : axOk n axes i = false) : ¬ axP n axes := fun hp => by rw [hp i h] at hb; cases hb
theorem axOk_in {n : Int} {axes : List Int} {i : Nat} (h : axOk n axes i = true) : 0 ≤ axes.getD i 0 ∧ axes.getD i 0 < n := by
  unfold axOk at h
  simp only [Bool.and_eq_true, Bool.not_eq_true', decide_eq_false_iff_not] at h
  omega
theorem pickM_take {list axes : List Int} {i : Nat} (h : i < axes.length) : pickM list (axes.take i) ++ [list.getD (axes.getD i 0).toNat 0] = pickM list (axes.take (i + 1)) := by
  rw [List.take_add_one, List.getElem?_eq_getElem h]
  unfold pickM
  rw [List.map_append]
  simp only [Option.toList_some, List.map_cons, List.map_nil, List.getD_eq_getElem?_getD, List.getElem?_eq_getElem h, Option.getD_some]
theorem pickM_len (list axes : List Int) : (pickM list axes).length = axes.length := by simp [pickM]
def optV : Option (List Int) → AV
  | some l => .tup [.sl false 1 (ints .i64 l), .lit (.bool true)]
  | none => .tup [.lit (.slice none 0 0), .lit (.bool false)]
theorem wrap64_eq (n : Int) : IntKind.i64.wrap n = (n + 9223372036854775808) % 18446744073709551616 - 9223372036854775808 := by
  unfold IntKind.wrap
  have e1 : IntKind.i64.bits = 64 := rfl
  have e2 : IntKind.i64.signed = true := rfl
  simp only [e1, e2]
  simp
  try omega
/-- The error of one array. -/
def checkS (frame axes : List Int) (r : Int) (a : Arr) : Int := match pickS frame axes with
  | none => 1
  | some own => if ofE a ≠ 0 then 1 else if r < 0 ∨ (a.d.length : Int) ≠ r + axes.length then 13 else if a.d.take axes.length ≠ own then 14 else 0
def chkG (frame : List Int) : List (List Int) → List Int → List Arr → Int
  | ax :: axs, r :: rs, a :: l => if checkS frame ax r a ≠ 0 then checkS frame ax r a else chkG frame axs rs l
  | _, _, _ => 0
def chkS (frame : List Int) (axs : List (List Int)) (rs : List Int) (l : List Arr) : Int :=
  if ((sizeS frame).2 ≠ 0 ∧ (sizeS frame).2 ≠ 3) ∨ axs.length ≠ l.length ∨ rs.length ≠ l.length then 1 else if (sizeS frame).2 ≠ 0 then 3 else chkG frame axs rs l
theorem ft42 : fieldTs Try.prog 42 = [40, 23] := by kernel_rfl
end Go.Proofs.Ytcjjakhmpffopaa

/- The entries of structure: dimensions, places. -/
namespace Go.Proofs.Ytcjjakhmpffopaa
open Go Go.Fw

def jA : AV := arrV nilA
def jI : AV := .sl false 1 []
def jk : TypeId → AV := lookZ [(3, .lit (.int .i64 0)), (9, .lit (.string ByteArray.empty)), (23, jI), (33, jA)]
theorem jk3 : jk 3 = .lit (.int .i64 0) := rfl
theorem jk9 : jk 9 = .lit (.string ByteArray.empty) := rfl
theorem jk23 : jk 23 = jI := rfl
theorem jk33 : jk 33 = jA := rfl
theorem arrs_getJ (l : List Arr) (i : Nat) : (arrs l).getD i jA = arrV (l.getD i nilA) := by
  simp only [arrs, jA, List.getD_eq_getElem?_getD, List.getElem?_map]; cases l[i]? <;> rfl
theorem ils_getJ (l : List (List Int)) (i : Nat) : (ils l).getD i jI = .sl false 1 (ints .i64 (l.getD i [])) := by
  simp only [ils, jI, List.getD_eq_getElem?_getD, List.getElem?_map]; cases l[i]? <;> rfl
attribute [go_sem] jk3 jk9 jk23 jk33 arrs_getJ ils_getJ
/-- Dimensions with an error. -/
def dV (r : List Int × Int) : AV := .tup [.sl false 1 (ints .i64 r.1), .lit (.int .i64 r.2)]
theorem dV_def {r : List Int × Int} : dV r = .tup [.sl false 1 (ints .i64 r.1), .lit (.int .i64 r.2)] := rfl
theorem dv_of {x : AV} {n : Int} {l : List Int} {r : List Int × Int} (h : slK .i64 x = some l) (e : r = (l, n)) : LeA (.tup [x, .lit (.int .i64 n)]) (dV r) := by
  subst e; exact LeA.tup ⟨slK_le h, LeA.refl _, trivial⟩
def partS (k n : Int) : Int := if k < 0 ∨ k > n then 2 else 0
def w64 (n : Int) : Int := IntKind.i64.wrap n
/-- The dimensions of a result, by the entry's function. -/
def dimsS (g : Nat) (k : Int) (ds : List (List Int)) : List Int × Int :=
  let a := (ds.getD 0 []).getD 0 0
  let b := (ds.getD 0 []).getD 1 0
  match g with
  | 103 => ([k], partS k (maxI k 0))
  | 105 => ([k], partS k a)
  | 108 => ([w64 (a - k)], partS k a)
  | 110 => (ds.getD 0 [], 0)
  | 112 => ([a + (ds.getD 1 []).getD 0 0], 0)
  | 113 => ([b, a], 0)
  | 115 => if a ≠ b then ([], 14) else ([a], 0)
  | 117 => ([w64 (w64 (a - k) + 1), k], partS k a)
  | 119 => if k < 1 ∨ k > 64 then ([], 2) else if a.tmod k ≠ 0 then ([], 14) else ([a.tdiv k, k], 0)
  | 121 => ([], 0)
  | 101 => ([(ds.length : Int)], 0)
  | _ => ([], 0)
/-- What an entry's function of dimensions asks of them. -/
def dimsP (g : Nat) (ds : List (List Int)) : Prop :=
  match g with
  | 105 | 108 | 117 | 119 => 0 < ds.length ∧ 0 < (ds.getD 0 []).length
  | 110 => 0 < ds.length
  | 112 => 1 < ds.length ∧ 0 < (ds.getD 0 []).length ∧ 0 < (ds.getD 1 []).length
  | 113 | 115 => 0 < ds.length ∧ 1 < (ds.getD 0 []).length
  | _ => True
def ilBd (ds : List (List Int)) : Prop := ∀ d ∈ ds, ∀ x ∈ d, 0 ≤ x ∧ x ≤ 4096
theorem ilBd_get {ds : List (List Int)} (h : ilBd ds) (i j : Nat) : 0 ≤ (ds.getD i []).getD j 0 ∧ (ds.getD i []).getD j 0 ≤ 4096 := by
  by_cases h1 : i < ds.length
  · by_cases h2 : j < (ds.getD i []).length
    · have e1 : ds.getD i [] ∈ ds := by rw [List.getD_eq_getElem?_getD, List.getElem?_eq_getElem h1]; exact List.getElem_mem h1
      have e2 : (ds.getD i []).getD j 0 ∈ ds.getD i [] := by
        generalize ds.getD i [] = d at h2
        rw [List.getD_eq_getElem?_getD, List.getElem?_eq_getElem h2]; exact List.getElem_mem h2
      exact h _ e1 _ e2
    · have : (ds.getD i []).getD j 0 = 0 := by
        generalize ds.getD i [] = d at h2
        rw [List.getD_eq_getElem?_getD, List.getElem?_eq_none (by omega)]; rfl
      omega
  · have : ds.getD i [] = [] := by rw [List.getD_eq_getElem?_getD, List.getElem?_eq_none (by omega)]; rfl
    rw [this]; simp
noncomputable def F1 : Env := envJ (P := Try.prog) jk zer (fun _ => false) (fun _ => false) [] []
theorem F1_ok : EnvOk Try.prog F1 := envJOk zer_ok
theorem part_pc {k n : Int} : PC Try.prog 106 [.lit (.int .i64 k), .lit (.int .i64 n)] (.lit (.int .i64 (partS k n))) := by
  refine pc_ofR F1_ok mixed (fun _ => [0, 1, 4, 11]) (rs := [.tmp 4]) Try.func106 rfl (by kernel_rfl) (by kernel_rfl) (Nat.le_of_ble_eq_true rfl) ?_
  simp only [initF_cons, initF_nil, Nat.reduceAdd]
  refine t_name fun KF => ?_
  unfold F1
  repeat' (first
   | (with_reducible first | refine t_seq fun K => ?_ | refine t_block ?_ | refine t_scope ?_ | refine t_label ?_ | refine t_skip ?_ | refine t_exit ?_ | refine t_ret ?_ | refine t_k ?_ | refine t_gF ?_ | exact kp_nil | exact Kp.refl _ | exact kp_to | refine kp_cons ?_ | refine kp_arr ?_ | refine kp_app ?_ | refine t_p ?_ | refine t_br (fun hc => ?_) fun hc => ?_)
   | ((with_reducible first | refine t_kE ?_ | refine t_kD ?_ | refine t_gS ?_ | refine t_kL ?_ | refine t_kLF ?_ ?_ | refine t_region fun K => ?_ | refine t_cond fun A B => ?_ | refine t_draw (by kernel_rfl) fun K => ?_); simp only [go_sem, geff])
   | ((with_reducible refine kp_skip ?_ ?_); rfl) | simp only [thenQ, blockQ, scopeQ, Nat.reduceEqDiff, reduceIte] | (with_reducible first | refine And.intro ?_ ?_ | intro vr))
  all_goals try (first | (with_reducible assumption) | (intros; (try simp only [Bool.and_eq_true, Bool.or_eq_true, Bool.or_eq_false_iff, Bool.not_eq_true', Bool.not_eq_false', decide_eq_true_eq, decide_eq_false_iff_not, beq_iff_eq, beq_eq_false_iff_ne, bne_iff_ne, bne_eq_false_iff_eq, ne_eq, inI64, List.length_append] at *) <;> omega) | (intros; (with_reducible first | refine impB_ofR ?_ | refine and_ofB ?_ ?_) <;> with_reducible first | assumption | (refine impB_ofR ?_; assumption)) | ((try simp only [Bool.and_eq_true] at vr); simp only [impB, vr, Bool.or_true, Bool.true_or, Bool.and_self, Bool.not_true, Bool.not_false, Bool.and_true]; done))
  all_goals ((first | refine end_retE ?_ | refine end_normE ?_); simp only [fin, go_sem])
  · refine LeA.of_eq ?_
    unfold partS
    rw [if_pos (by simpa using hc)]
  · refine LeA.of_eq ?_
    unfold partS
    rw [if_neg (by simpa using hc)]
noncomputable def con106 : PCon Try.prog where
  f := 106
  c := fun
    | [.lit (.int .i64 k), .lit (.int .i64 n)] => some (True, .lit (.int .i64 (partS k n)))
    | _ => none
  ok := by
    intro args p r hc hp
    split at hc
    · cases hc; exact part_pc
    · cases hc
  fk := fk106
theorem con106_f : con106.f = 106 := rfl
theorem con106_c {k : Int} {n : Int} : con106.c [.lit (.int .i64 k), .lit (.int .i64 n)] = some (True, .lit (.int .i64 (partS k n))) := rfl
noncomputable def F2 : Env := envJ (P := Try.prog) jk zer (fun _ => false) (fun _ => false) [con106] []
theorem F2_ok : EnvOk Try.prog F2 := envJOk zer_ok
noncomputable def F3 : Env := envJ (P := Try.prog) jk zer (fun t => t == 12 || t == 13) (fun _ => false) [con106] []
theorem F3_ok : EnvOk Try.prog F3 := envJOk zer_ok
theorem tdiv_bd {a k : Int} (h : 0 ≤ a ∧ a ≤ 4096) (hk : 1 ≤ k) : 0 ≤ a.tdiv k ∧ a.tdiv k ≤ 4096 := by
  rw [Int.tdiv_eq_ediv_of_nonneg h.1]
  exact ⟨Int.ediv_nonneg h.1 (by omega), Int.le_trans (Int.ediv_le_self _ h.1) h.2⟩
set_option maxHeartbeats 2000000 in
theorem dims_pc {g : FuncId} (hg : g ∈ [103, 105, 108, 110, 112, 113, 115, 117, 119, 121, 101]) {k : Int} {ds : List (List Int)} (hl : ds.length ≤ 1000000) (hp : dimsP g ds) (hb : ilBd ds) :
    PC Try.prog g [.lit (.int .i64 k), .sl false 1 (ils ds)] (dV (dimsS g k ds)) := by
  have h00 := ilBd_get hb 0 0
  have h01 := ilBd_get hb 0 1
  have h10 := ilBd_get hb 1 0
  have w1 : ∀ n, (0 ≤ n ∧ n ≤ 10000) → IntKind.i64.wrap n = n := fun n h => wrap_i64 (by unfold inI64; omega)
  have w2 := w1 ((ds.getD 0 []).getD 0 0 + (ds.getD 1 []).getD 0 0) (by omega)
  simp only [List.mem_cons, List.not_mem_nil, or_false] at hg
  rcases hg with rfl | rfl | rfl | rfl | rfl | rfl | rfl | rfl | rfl | rfl | rfl <;> simp only [dimsP] at hp
  · skip
    refine pc_ofR F2_ok mixed (fun _ => [0, 4, 5]) (rs := [.tmp 4, .tmp 5]) Try.func103 rfl (by kernel_rfl) (by kernel_rfl) (Nat.le_of_ble_eq_true rfl) ?_
    simp only [initF_cons, initF_nil, Nat.reduceAdd]
    refine t_name fun KF => ?_
    unfold F2
    repeat' (first
     | (with_reducible first | refine t_seq fun K => ?_ | refine t_block ?_ | refine t_scope ?_ | refine t_label ?_ | refine t_skip ?_ | refine t_exit ?_ | refine t_ret ?_ | refine t_k ?_ | refine t_gF ?_ | exact kp_nil | exact Kp.refl _ | exact kp_to | refine kp_cons ?_ | refine kp_arr ?_ | refine kp_app ?_ | refine t_p ?_ | refine t_br (fun hc => ?_) fun hc => ?_)
     | ((with_reducible first | refine t_kE ?_ | refine t_kD ?_ | refine t_gS ?_ | refine t_kL ?_ | refine t_kLF ?_ ?_ | refine t_region fun K => ?_ | refine t_cond fun A B => ?_ | refine t_draw (by kernel_rfl) fun K => ?_); simp only [go_sem, geff, con106_f, con106_c, ils_length])
     | ((with_reducible refine kp_skip ?_ ?_); rfl) | simp only [thenQ, blockQ, scopeQ, Nat.reduceEqDiff, reduceIte] | (with_reducible first | refine And.intro ?_ ?_ | intro vr))
    all_goals try (first | (with_reducible assumption) | (intros; (try simp only [Bool.and_eq_true, Bool.or_eq_true, Bool.or_eq_false_iff, Bool.not_eq_true', Bool.not_eq_false', decide_eq_true_eq, decide_eq_false_iff_not, beq_iff_eq, beq_eq_false_iff_ne, bne_iff_ne, bne_eq_false_iff_eq, ne_eq, inI64, List.length_append] at *) <;> omega) | (intros; (with_reducible first | refine impB_ofR ?_ | refine and_ofB ?_ ?_) <;> with_reducible first | assumption | (refine impB_ofR ?_; assumption)) | ((try simp only [Bool.and_eq_true] at vr); simp only [impB, vr, Bool.or_true, Bool.true_or, Bool.and_self, Bool.not_true, Bool.not_false, Bool.and_true]; done))
    all_goals ((first | refine end_retE ?_ | refine end_normE ?_); simp only [fin, go_sem])
    all_goals exact dv_of (by first | exact slK_sl | rfl) (by simp_all [dimsS, w64])
  · skip
    refine pc_ofR F2_ok mixed (fun _ => [0, 1, 4, 5]) (rs := [.tmp 4, .tmp 5]) Try.func105 rfl (by kernel_rfl) (by kernel_rfl) (Nat.le_of_ble_eq_true rfl) ?_
    simp only [initF_cons, initF_nil, Nat.reduceAdd]
    refine t_name fun KF => ?_
    unfold F2
    repeat' (first
     | (with_reducible first | refine t_seq fun K => ?_ | refine t_block ?_ | refine t_scope ?_ | refine t_label ?_ | refine t_skip ?_ | refine t_exit ?_ | refine t_ret ?_ | refine t_k ?_ | refine t_gF ?_ | exact kp_nil | exact Kp.refl _ | exact kp_to | refine kp_cons ?_ | refine kp_arr ?_ | refine kp_app ?_ | refine t_p ?_ | refine t_br (fun hc => ?_) fun hc => ?_)
     | ((with_reducible first | refine t_kE ?_ | refine t_kD ?_ | refine t_gS ?_ | refine t_kL ?_ | refine t_kLF ?_ ?_ | refine t_region fun K => ?_ | refine t_cond fun A B => ?_ | refine t_draw (by kernel_rfl) fun K => ?_); simp only [go_sem, geff, con106_f, con106_c, ils_length])
     | ((with_reducible refine kp_skip ?_ ?_); rfl) | simp only [thenQ, blockQ, scopeQ, Nat.reduceEqDiff, reduceIte] | (with_reducible first | refine And.intro ?_ ?_ | intro vr))
    all_goals try (first | (with_reducible assumption) | (intros; (try simp only [Bool.and_eq_true, Bool.or_eq_true, Bool.or_eq_false_iff, Bool.not_eq_true', Bool.not_eq_false', decide_eq_true_eq, decide_eq_false_iff_not, beq_iff_eq, beq_eq_false_iff_ne, bne_iff_ne, bne_eq_false_iff_eq, ne_eq, inI64, List.length_append] at *) <;> omega) | (intros; (with_reducible first | refine impB_ofR ?_ | refine and_ofB ?_ ?_) <;> with_reducible first | assumption | (refine impB_ofR ?_; assumption)) | ((try simp only [Bool.and_eq_true] at vr); simp only [impB, vr, Bool.or_true, Bool.true_or, Bool.and_self, Bool.not_true, Bool.not_false, Bool.and_true]; done))
    all_goals ((first | refine end_retE ?_ | refine end_normE ?_); simp only [fin, go_sem])
    all_goals exact dv_of (by first | exact slK_sl | rfl) (by simp_all [dimsS, w64])
  · skip
    refine pc_ofR F3_ok mixed (fun _ => [0, 1, 4, 5]) (rs := [.tmp 4, .tmp 5]) Try.func108 rfl (by kernel_rfl) (by kernel_rfl) (Nat.le_of_ble_eq_true rfl) ?_
    simp only [initF_cons, initF_nil, Nat.reduceAdd]
    refine t_name fun KF => ?_
    unfold F3
    repeat' (first
     | (with_reducible first | refine t_seq fun K => ?_ | refine t_block ?_ | refine t_scope ?_ | refine t_label ?_ | refine t_skip ?_ | refine t_exit ?_ | refine t_ret ?_ | refine t_k ?_ | refine t_gF ?_ | exact kp_nil | exact Kp.refl _ | exact kp_to | refine kp_cons ?_ | refine kp_arr ?_ | refine kp_app ?_ | refine t_p ?_ | refine t_br (fun hc => ?_) fun hc => ?_)
     | ((with_reducible first | refine t_kE ?_ | refine t_kD ?_ | refine t_gS ?_ | refine t_kL ?_ | refine t_kLF ?_ ?_ | refine t_region fun K => ?_ | refine t_cond fun A B => ?_ | refine t_draw (by kernel_rfl) fun K => ?_); simp only [go_sem, geff, con106_f, con106_c, ils_length])
     | ((with_reducible refine kp_skip ?_ ?_); rfl) | simp only [thenQ, blockQ, scopeQ, Nat.reduceEqDiff, reduceIte] | (with_reducible first | refine And.intro ?_ ?_ | intro vr))
    all_goals try (first | (with_reducible assumption) | (intros; (try simp only [Bool.and_eq_true, Bool.or_eq_true, Bool.or_eq_false_iff, Bool.not_eq_true', Bool.not_eq_false', decide_eq_true_eq, decide_eq_false_iff_not, beq_iff_eq, beq_eq_false_iff_ne, bne_iff_ne, bne_eq_false_iff_eq, ne_eq, inI64, List.length_append] at *) <;> omega) | (intros; (with_reducible first | refine impB_ofR ?_ | refine and_ofB ?_ ?_) <;> with_reducible first | assumption | (refine impB_ofR ?_; assumption)) | ((try simp only [Bool.and_eq_true] at vr); simp only [impB, vr, Bool.or_true, Bool.true_or, Bool.and_self, Bool.not_true, Bool.not_false, Bool.and_true]; done))
    all_goals ((first | refine end_retE ?_ | refine end_normE ?_); simp only [fin, go_sem])
    all_goals exact dv_of (by first | exact slK_sl | rfl) (by simp_all [dimsS, w64])
  · skip
    refine pc_ofR F2_ok mixed (fun _ => [1, 4, 5]) (rs := [.tmp 4, .tmp 5]) Try.func110 rfl (by kernel_rfl) (by kernel_rfl) (Nat.le_of_ble_eq_true rfl) ?_
    simp only [initF_cons, initF_nil, Nat.reduceAdd]
    refine t_name fun KF => ?_
    unfold F2
    repeat' (first
     | (with_reducible first | refine t_seq fun K => ?_ | refine t_block ?_ | refine t_scope ?_ | refine t_label ?_ | refine t_skip ?_ | refine t_exit ?_ | refine t_ret ?_ | refine t_k ?_ | refine t_gF ?_ | exact kp_nil | exact Kp.refl _ | exact kp_to | refine kp_cons ?_ | refine kp_arr ?_ | refine kp_app ?_ | refine t_p ?_ | refine t_br (fun hc => ?_) fun hc => ?_)
     | ((with_reducible first | refine t_kE ?_ | refine t_kD ?_ | refine t_gS ?_ | refine t_kL ?_ | refine t_kLF ?_ ?_ | refine t_region fun K => ?_ | refine t_cond fun A B => ?_ | refine t_draw (by kernel_rfl) fun K => ?_); simp only [go_sem, geff, con106_f, con106_c, ils_length])
     | ((with_reducible refine kp_skip ?_ ?_); rfl) | simp only [thenQ, blockQ, scopeQ, Nat.reduceEqDiff, reduceIte] | (with_reducible first | refine And.intro ?_ ?_ | intro vr))
    all_goals try (first | (with_reducible assumption) | (intros; (try simp only [Bool.and_eq_true, Bool.or_eq_true, Bool.or_eq_false_iff, Bool.not_eq_true', Bool.not_eq_false', decide_eq_true_eq, decide_eq_false_iff_not, beq_iff_eq, beq_eq_false_iff_ne, bne_iff_ne, bne_eq_false_iff_eq, ne_eq, inI64, List.length_append] at *) <;> omega) | (intros; (with_reducible first | refine impB_ofR ?_ | refine and_ofB ?_ ?_) <;> with_reducible first | assumption | (refine impB_ofR ?_; assumption)) | ((try simp only [Bool.and_eq_true] at vr); simp only [impB, vr, Bool.or_true, Bool.true_or, Bool.and_self, Bool.not_true, Bool.not_false, Bool.and_true]; done))
    all_goals ((first | refine end_retE ?_ | refine end_normE ?_); simp only [fin, go_sem])
    all_goals exact dv_of (by first | exact slK_sl | rfl) (by simp_all [dimsS, w64])
  · skip
    refine pc_ofR F2_ok mixed (fun _ => [1, 4, 5]) (rs := [.tmp 4, .tmp 5]) Try.func112 rfl (by kernel_rfl) (by kernel_rfl) (Nat.le_of_ble_eq_true rfl) ?_
    simp only [initF_cons, initF_nil, Nat.reduceAdd]
    refine t_name fun KF => ?_
    unfold F2
    repeat' (first
     | (with_reducible first | refine t_seq fun K => ?_ | refine t_block ?_ | refine t_scope ?_ | refine t_label ?_ | refine t_skip ?_ | refine t_exit ?_ | refine t_ret ?_ | refine t_k ?_ | refine t_gF ?_ | exact kp_nil | exact Kp.refl _ | exact kp_to | refine kp_cons ?_ | refine kp_arr ?_ | refine kp_app ?_ | refine t_p ?_ | refine t_br (fun hc => ?_) fun hc => ?_)
     | ((with_reducible first | refine t_kE ?_ | refine t_kD ?_ | refine t_gS ?_ | refine t_kL ?_ | refine t_kLF ?_ ?_ | refine t_region fun K => ?_ | refine t_cond fun A B => ?_ | refine t_draw (by kernel_rfl) fun K => ?_); simp only [go_sem, geff, con106_f, con106_c, ils_length, w2])
     | ((with_reducible refine kp_skip ?_ ?_); rfl) | simp only [thenQ, blockQ, scopeQ, Nat.reduceEqDiff, reduceIte] | (with_reducible first | refine And.intro ?_ ?_ | intro vr))
    all_goals try (first | (with_reducible assumption) | (intros; (try simp only [Bool.and_eq_true, Bool.or_eq_true, Bool.or_eq_false_iff, Bool.not_eq_true', Bool.not_eq_false', decide_eq_true_eq, decide_eq_false_iff_not, beq_iff_eq, beq_eq_false_iff_ne, bne_iff_ne, bne_eq_false_iff_eq, ne_eq, inI64, List.length_append] at *) <;> omega) | (intros; (with_reducible first | refine impB_ofR ?_ | refine and_ofB ?_ ?_) <;> with_reducible first | assumption | (refine impB_ofR ?_; assumption)) | ((try simp only [Bool.and_eq_true] at vr); simp only [impB, vr, Bool.or_true, Bool.true_or, Bool.and_self, Bool.not_true, Bool.not_false, Bool.and_true]; done))
    all_goals ((first | refine end_retE ?_ | refine end_normE ?_); simp only [fin, go_sem])
    all_goals exact dv_of (by first | exact slK_sl | rfl) (by simp_all [dimsS, w64])
  · skip
    refine pc_ofR F2_ok mixed (fun _ => [1, 4, 5]) (rs := [.tmp 4, .tmp 5]) Try.func113 rfl (by kernel_rfl) (by kernel_rfl) (Nat.le_of_ble_eq_true rfl) ?_
    simp only [initF_cons, initF_nil, Nat.reduceAdd]
    refine t_name fun KF => ?_
    unfold F2
    repeat' (first
     | (with_reducible first | refine t_seq fun K => ?_ | refine t_block ?_ | refine t_scope ?_ | refine t_label ?_ | refine t_skip ?_ | refine t_exit ?_ | refine t_ret ?_ | refine t_k ?_ | refine t_gF ?_ | exact kp_nil | exact Kp.refl _ | exact kp_to | refine kp_cons ?_ | refine kp_arr ?_ | refine kp_app ?_ | refine t_p ?_ | refine t_br (fun hc => ?_) fun hc => ?_)
     | ((with_reducible first | refine t_kE ?_ | refine t_kD ?_ | refine t_gS ?_ | refine t_kL ?_ | refine t_kLF ?_ ?_ | refine t_region fun K => ?_ | refine t_cond fun A B => ?_ | refine t_draw (by kernel_rfl) fun K => ?_); simp only [go_sem, geff, con106_f, con106_c, ils_length])
     | ((with_reducible refine kp_skip ?_ ?_); rfl) | simp only [thenQ, blockQ, scopeQ, Nat.reduceEqDiff, reduceIte] | (with_reducible first | refine And.intro ?_ ?_ | intro vr))
    all_goals try (first | (with_reducible assumption) | (intros; (try simp only [Bool.and_eq_true, Bool.or_eq_true, Bool.or_eq_false_iff, Bool.not_eq_true', Bool.not_eq_false', decide_eq_true_eq, decide_eq_false_iff_not, beq_iff_eq, beq_eq_false_iff_ne, bne_iff_ne, bne_eq_false_iff_eq, ne_eq, inI64, List.length_append] at *) <;> omega) | (intros; (with_reducible first | refine impB_ofR ?_ | refine and_ofB ?_ ?_) <;> with_reducible first | assumption | (refine impB_ofR ?_; assumption)) | ((try simp only [Bool.and_eq_true] at vr); simp only [impB, vr, Bool.or_true, Bool.true_or, Bool.and_self, Bool.not_true, Bool.not_false, Bool.and_true]; done))
    all_goals ((first | refine end_retE ?_ | refine end_normE ?_); simp only [fin, go_sem])
    all_goals exact dv_of (by first | exact slK_sl | rfl) (by simp_all [dimsS, w64])
  · skip
    refine pc_ofR F2_ok mixed (fun _ => [1, 4, 5, 16]) (rs := [.tmp 4, .tmp 5]) Try.func115 rfl (by kernel_rfl) (by kernel_rfl) (Nat.le_of_ble_eq_true rfl) ?_
    simp only [initF_cons, initF_nil, Nat.reduceAdd]
    refine t_name fun KF => ?_
    unfold F2
    repeat' (first
     | (with_reducible first | refine t_seq fun K => ?_ | refine t_block ?_ | refine t_scope ?_ | refine t_label ?_ | refine t_skip ?_ | refine t_exit ?_ | refine t_ret ?_ | refine t_k ?_ | refine t_gF ?_ | exact kp_nil | exact Kp.refl _ | exact kp_to | refine kp_cons ?_ | refine kp_arr ?_ | refine kp_app ?_ | refine t_p ?_ | refine t_br (fun hc => ?_) fun hc => ?_)
     | ((with_reducible first | refine t_kE ?_ | refine t_kD ?_ | refine t_gS ?_ | refine t_kL ?_ | refine t_kLF ?_ ?_ | refine t_region fun K => ?_ | refine t_cond fun A B => ?_ | refine t_draw (by kernel_rfl) fun K => ?_); simp only [go_sem, geff, con106_f, con106_c, ils_length])
     | ((with_reducible refine kp_skip ?_ ?_); rfl) | simp only [thenQ, blockQ, scopeQ, Nat.reduceEqDiff, reduceIte] | (with_reducible first | refine And.intro ?_ ?_ | intro vr))
    all_goals try (first | (with_reducible assumption) | (intros; (try simp only [Bool.and_eq_true, Bool.or_eq_true, Bool.or_eq_false_iff, Bool.not_eq_true', Bool.not_eq_false', decide_eq_true_eq, decide_eq_false_iff_not, beq_iff_eq, beq_eq_false_iff_ne, bne_iff_ne, bne_eq_false_iff_eq, ne_eq, inI64, List.length_append] at *) <;> omega) | (intros; (with_reducible first | refine impB_ofR ?_ | refine and_ofB ?_ ?_) <;> with_reducible first | assumption | (refine impB_ofR ?_; assumption)) | ((try simp only [Bool.and_eq_true] at vr); simp only [impB, vr, Bool.or_true, Bool.true_or, Bool.and_self, Bool.not_true, Bool.not_false, Bool.and_true]; done))
    all_goals ((first | refine end_retE ?_ | refine end_normE ?_); simp only [fin, go_sem])
    · exact dv_of (by first | exact slK_sl | rfl) (by simp_all [dimsS, w64])
    · refine dv_of slK_sl ?_
      have e : List.take 1 (ds.getD 0 []) = [(ds.getD 0 []).getD 0 0] := by
        generalize ds.getD 0 [] = d at hp
        match d, hp with
        | a :: _, _ => rfl
      rw [e]
      simp_all [dimsS]
  · skip
    refine pc_ofR F3_ok mixed (fun _ => [0, 1, 4, 5]) (rs := [.tmp 4, .tmp 5]) Try.func117 rfl (by kernel_rfl) (by kernel_rfl) (Nat.le_of_ble_eq_true rfl) ?_
    simp only [initF_cons, initF_nil, Nat.reduceAdd]
    refine t_name fun KF => ?_
    unfold F3
    repeat' (first
     | (with_reducible first | refine t_seq fun K => ?_ | refine t_block ?_ | refine t_scope ?_ | refine t_label ?_ | refine t_skip ?_ | refine t_exit ?_ | refine t_ret ?_ | refine t_k ?_ | refine t_gF ?_ | exact kp_nil | exact Kp.refl _ | exact kp_to | refine kp_cons ?_ | refine kp_arr ?_ | refine kp_app ?_ | refine t_p ?_ | refine t_br (fun hc => ?_) fun hc => ?_)
     | ((with_reducible first | refine t_kE ?_ | refine t_kD ?_ | refine t_gS ?_ | refine t_kL ?_ | refine t_kLF ?_ ?_ | refine t_region fun K => ?_ | refine t_cond fun A B => ?_ | refine t_draw (by kernel_rfl) fun K => ?_); simp only [go_sem, geff, con106_f, con106_c, ils_length])
     | ((with_reducible refine kp_skip ?_ ?_); rfl) | simp only [thenQ, blockQ, scopeQ, Nat.reduceEqDiff, reduceIte] | (with_reducible first | refine And.intro ?_ ?_ | intro vr))
    all_goals try (first | (with_reducible assumption) | (intros; (try simp only [Bool.and_eq_true, Bool.or_eq_true, Bool.or_eq_false_iff, Bool.not_eq_true', Bool.not_eq_false', decide_eq_true_eq, decide_eq_false_iff_not, beq_iff_eq, beq_eq_false_iff_ne, bne_iff_ne, bne_eq_false_iff_eq, ne_eq, inI64, List.length_append] at *) <;> omega) | (intros; (with_reducible first | refine impB_ofR ?_ | refine and_ofB ?_ ?_) <;> with_reducible first | assumption | (refine impB_ofR ?_; assumption)) | ((try simp only [Bool.and_eq_true] at vr); simp only [impB, vr, Bool.or_true, Bool.true_or, Bool.and_self, Bool.not_true, Bool.not_false, Bool.and_true]; done))
    all_goals ((first | refine end_retE ?_ | refine end_normE ?_); simp only [fin, go_sem])
    all_goals exact dv_of (by first | exact slK_sl | rfl) (by simp_all [dimsS, w64])
  · skip
    have ht : (decide (k < 1) || decide (k > 64)) = false → inI64 (((ds.getD 0 []).getD 0 0).tdiv k) := fun h => by
      simp only [Bool.or_eq_false_iff, decide_eq_false_iff_not] at h
      have := tdiv_bd h00 (k := k) (by omega)
      unfold inI64; omega
    refine pc_ofR F2_ok mixed (fun _ => [0, 1, 4, 5, 6, 13]) (rs := [.tmp 4, .tmp 5]) Try.func119 rfl (by kernel_rfl) (by kernel_rfl) (Nat.le_of_ble_eq_true rfl) ?_
    simp only [initF_cons, initF_nil, Nat.reduceAdd]
    refine t_name fun KF => ?_
    unfold F2
    repeat' (first
     | (with_reducible first | refine t_seq fun K => ?_ | refine t_block ?_ | refine t_scope ?_ | refine t_label ?_ | refine t_skip ?_ | refine t_exit ?_ | refine t_ret ?_ | refine t_k ?_ | refine t_gF ?_ | exact kp_nil | exact Kp.refl _ | exact kp_to | refine kp_cons ?_ | refine kp_arr ?_ | refine kp_app ?_ | refine t_p ?_ | refine t_br (fun hc => ?_) fun hc => ?_)
     | ((with_reducible first | refine t_kE ?_ | refine t_kD ?_ | refine t_gS ?_ | refine t_kL ?_ | refine t_kLF ?_ ?_ | refine t_region fun K => ?_ | refine t_cond fun A B => ?_ | refine t_draw (by kernel_rfl) fun K => ?_); simp only [go_sem, geff, con106_f, con106_c, ils_length])
     | ((with_reducible refine kp_skip ?_ ?_); rfl) | simp only [thenQ, blockQ, scopeQ, Nat.reduceEqDiff, reduceIte] | (with_reducible first | refine And.intro ?_ ?_ | intro vr))
    all_goals try exact ht ‹_›
    all_goals try (first | (with_reducible assumption) | (intros; (try simp only [Bool.and_eq_true, Bool.or_eq_true, Bool.or_eq_false_iff, Bool.not_eq_true', Bool.not_eq_false', decide_eq_true_eq, decide_eq_false_iff_not, beq_iff_eq, beq_eq_false_iff_ne, bne_iff_ne, bne_eq_false_iff_eq, ne_eq, inI64, List.length_append] at *) <;> omega) | (intros; (with_reducible first | refine impB_ofR ?_ | refine and_ofB ?_ ?_) <;> with_reducible first | assumption | (refine impB_ofR ?_; assumption)) | ((try simp only [Bool.and_eq_true] at vr); simp only [impB, vr, Bool.or_true, Bool.true_or, Bool.and_self, Bool.not_true, Bool.not_false, Bool.and_true]; done))
    all_goals ((first | refine end_retE ?_ | refine end_normE ?_); simp only [fin, go_sem])
    · refine dv_of rfl ?_
      simp only [Bool.or_eq_true, decide_eq_true_eq] at hc
      simp only [dimsS]; rw [if_pos hc]
    · refine dv_of rfl ?_
      revert hc
      simp only [Bool.or_eq_false_iff, decide_eq_false_iff_not] at *
      intro hc
      simp only [dimsS]; rw [if_neg (by omega), if_pos (by simpa using hc)]
    · refine dv_of rfl ?_
      revert hc
      simp only [Bool.or_eq_false_iff, decide_eq_false_iff_not] at *
      intro hc
      simp only [dimsS]; rw [if_neg (by omega), if_neg (by simpa using hc)]
  · skip
    refine pc_ofR F2_ok mixed (fun _ => [4, 5]) (rs := [.tmp 4, .tmp 5]) Try.func121 rfl (by kernel_rfl) (by kernel_rfl) (Nat.le_of_ble_eq_true rfl) ?_
    simp only [initF_cons, initF_nil, Nat.reduceAdd]
    refine t_name fun KF => ?_
    unfold F2
    repeat' (first
     | (with_reducible first | refine t_seq fun K => ?_ | refine t_block ?_ | refine t_scope ?_ | refine t_label ?_ | refine t_skip ?_ | refine t_exit ?_ | refine t_ret ?_ | refine t_k ?_ | refine t_gF ?_ | exact kp_nil | exact Kp.refl _ | exact kp_to | refine kp_cons ?_ | refine kp_arr ?_ | refine kp_app ?_ | refine t_p ?_ | refine t_br (fun hc => ?_) fun hc => ?_)
     | ((with_reducible first | refine t_kE ?_ | refine t_kD ?_ | refine t_gS ?_ | refine t_kL ?_ | refine t_kLF ?_ ?_ | refine t_region fun K => ?_ | refine t_cond fun A B => ?_ | refine t_draw (by kernel_rfl) fun K => ?_); simp only [go_sem, geff, con106_f, con106_c, ils_length])
     | ((with_reducible refine kp_skip ?_ ?_); rfl) | simp only [thenQ, blockQ, scopeQ, Nat.reduceEqDiff, reduceIte] | (with_reducible first | refine And.intro ?_ ?_ | intro vr))
    all_goals try (first | (with_reducible assumption) | (intros; (try simp only [Bool.and_eq_true, Bool.or_eq_true, Bool.or_eq_false_iff, Bool.not_eq_true', Bool.not_eq_false', decide_eq_true_eq, decide_eq_false_iff_not, beq_iff_eq, beq_eq_false_iff_ne, bne_iff_ne, bne_eq_false_iff_eq, ne_eq, inI64, List.length_append] at *) <;> omega) | (intros; (with_reducible first | refine impB_ofR ?_ | refine and_ofB ?_ ?_) <;> with_reducible first | assumption | (refine impB_ofR ?_; assumption)) | ((try simp only [Bool.and_eq_true] at vr); simp only [impB, vr, Bool.or_true, Bool.true_or, Bool.and_self, Bool.not_true, Bool.not_false, Bool.and_true]; done))
    all_goals ((first | refine end_retE ?_ | refine end_normE ?_); simp only [fin, go_sem])
    all_goals exact dv_of (by first | exact slK_sl | rfl) (by simp_all [dimsS, w64])
  · skip
    refine pc_ofR F2_ok mixed (fun _ => [1, 4, 5]) (rs := [.tmp 4, .tmp 5]) Try.func101 rfl (by kernel_rfl) (by kernel_rfl) (Nat.le_of_ble_eq_true rfl) ?_
    simp only [initF_cons, initF_nil, Nat.reduceAdd]
    refine t_name fun KF => ?_
    unfold F2
    repeat' (first
     | (with_reducible first | refine t_seq fun K => ?_ | refine t_block ?_ | refine t_scope ?_ | refine t_label ?_ | refine t_skip ?_ | refine t_exit ?_ | refine t_ret ?_ | refine t_k ?_ | refine t_gF ?_ | exact kp_nil | exact Kp.refl _ | exact kp_to | refine kp_cons ?_ | refine kp_arr ?_ | refine kp_app ?_ | refine t_p ?_ | refine t_br (fun hc => ?_) fun hc => ?_)
     | ((with_reducible first | refine t_kE ?_ | refine t_kD ?_ | refine t_gS ?_ | refine t_kL ?_ | refine t_kLF ?_ ?_ | refine t_region fun K => ?_ | refine t_cond fun A B => ?_ | refine t_draw (by kernel_rfl) fun K => ?_); simp only [go_sem, geff, con106_f, con106_c, ils_length])
     | ((with_reducible refine kp_skip ?_ ?_); rfl) | simp only [thenQ, blockQ, scopeQ, Nat.reduceEqDiff, reduceIte] | (with_reducible first | refine And.intro ?_ ?_ | intro vr))
    all_goals try (first | (with_reducible assumption) | (intros; (try simp only [Bool.and_eq_true, Bool.or_eq_true, Bool.or_eq_false_iff, Bool.not_eq_true', Bool.not_eq_false', decide_eq_true_eq, decide_eq_false_iff_not, beq_iff_eq, beq_eq_false_iff_ne, bne_iff_ne, bne_eq_false_iff_eq, ne_eq, inI64, List.length_append] at *) <;> omega) | (intros; (with_reducible first | refine impB_ofR ?_ | refine and_ofB ?_ ?_) <;> with_reducible first | assumption | (refine impB_ofR ?_; assumption)) | ((try simp only [Bool.and_eq_true] at vr); simp only [impB, vr, Bool.or_true, Bool.true_or, Bool.and_self, Bool.not_true, Bool.not_false, Bool.and_true]; done))
    all_goals ((first | refine end_retE ?_ | refine end_normE ?_); simp only [fin, go_sem])
    all_goals exact dv_of (by first | exact slK_sl | rfl) (by simp_all [dimsS, w64])
end Go.Proofs.Ytcjjakhmpffopaa

/- All indices of a frame. -/
namespace Go.Proofs.Ytcjjakhmpffopaa
open Go Go.Fw
set_option maxRecDepth 20000
/-- The first indices of a frame. -/
def inds (fr : List Int) (k : Nat) : List (List Int) := (List.range k).map fun j : Nat => (idxS fr (j : Int)).1
def indicesS (fr : List Int) : List (List Int) × Int := if (sizeS fr).2 ≠ 0 then ([], (sizeS fr).2) else (inds fr (sizeS fr).1.toNat, 0)
def inV (p : List (List Int) × Int) : AV := .tup [.sl false 1 (ils p.1), .lit (.int .i64 p.2)]
theorem inds_succ (fr : List Int) (k : Nat) : inds fr (k + 1) = inds fr k ++ [(idxS fr k).1] := by simp [inds, List.range_succ]
theorem inds_len (fr : List Int) (k : Nat) : (inds fr k).length = k := by simp [inds]

theorem ilsl_len (a : List (List Int)) : (ils a).length = a.length := by simp [ils]
attribute [go_sem] ils_app ilsl_len con71_f con71_c con30_f con30_c ixV szV inds_len
noncomputable def E74 : Env := envJ (P := Try.prog) jk zer (fun _ => false) (fun _ => false) [con30, con71] []
theorem E74_ok : EnvOk Try.prog E74 := envJOk zer_ok
set_option maxHeartbeats 4000000 in
theorem rindices_pc {fr : List Int} (hl : fr.length ≤ 1000000) : PC Try.prog 35 [.sl false 1 (ints .i64 fr)] (inV (indicesS fr)) := by
  unfold indicesS
  generalize hS : sizeS fr = s
  obtain ⟨n, e⟩ := s
  simp only
  by_cases h1 : e = 0
  · subst h1
    obtain ⟨_, _, h4, h5⟩ := sizeS_ok hS
    have hn : 0 ≤ n := by rw [h4]; exact prI_nonneg ‹dimOk fr›
    rw [if_neg (by simp)]
    refine pc_ofR E74_ok mixed (kp35) (rs := [.tmp 2, .tmp 3]) Try.func35 rfl (by kernel_rfl) (by kernel_rfl) (Nat.le_of_ble_eq_true rfl) ?_
    simp only [initF_cons, initF_nil, Nat.reduceAdd]
    refine t_name fun KF => ?_
    unfold E74
    repeat' (first
     | (with_reducible first | refine t_seq fun K => ?_ | refine t_block ?_ | refine t_scope ?_ | refine t_label ?_ | refine t_skip ?_ | refine t_exit ?_ | refine t_ret ?_ | refine t_k ?_ | refine t_gF ?_ | exact kp_nil | exact Kp.refl _ | exact kp_to | refine kp_cons ?_ | refine kp_arr ?_ | refine kp_app ?_ | refine t_p ?_ | refine t_br (fun hc => ?_) fun hc => ?_)
     | ((with_reducible first | refine t_kE (t_openE ?_) | refine t_kD (t_openD ?_) | refine t_kE ?_ | refine t_kD ?_ | refine t_gS ?_ | refine t_kL ?_ | refine t_kLF ?_ ?_ | refine t_region fun K => ?_ | refine t_cond fun A B => ?_ | refine t_draw (by kernel_rfl) fun K => ?_); (try (first | refine t_hideE fun KL => ?_ | refine t_hideD fun KL => ?_)); simp only [go_sem, geff, kp35, hS])
     | ((with_reducible refine kp_skip ?_ ?_); rfl) | simp only [thenQ, blockQ, scopeQ, Nat.reduceEqDiff, reduceIte] | (with_reducible first | refine And.intro ?_ ?_ | intro vr))
    all_goals try (first | (with_reducible assumption) | (intros; (try simp only [Bool.and_eq_true, Bool.or_eq_true, Bool.or_eq_false_iff, Bool.not_eq_true', Bool.not_eq_false', decide_eq_true_eq, decide_eq_false_iff_not, beq_iff_eq, beq_eq_false_iff_ne, bne_iff_ne, bne_eq_false_iff_eq, ne_eq, inI64, List.length_append] at *) <;> omega) | (intros; (with_reducible first | refine impB_ofR ?_ | refine and_ofB ?_ ?_) <;> with_reducible first | assumption | (refine impB_ofR ?_; assumption)) | ((try simp only [Bool.and_eq_true] at vr); simp only [impB, vr, Bool.or_true, Bool.true_or, Bool.and_self, Bool.not_true, Bool.not_false, Bool.and_true]; done))
    refine t_loopF (ι := { p : Nat × Nat // (p.1 : Int) ≤ n }) (fun i => [(7, .lit (.int .i64 i.1.1)), (6, .arr 0 i.1.2)]) (fun i => [.arr 23 1 (ils (inds fr i.1.1)) i.1.2 false]) (fun i => n.toNat - i.1.1) ⟨(0, 0), by simpa using hn⟩ ?_ ?_
    · refine (le_nil 6 23 1 rfl).trans ?_
      simp only [updL_nil, updL_cons, delF_top, delF_upd, Nat.reduceEqDiff, reduceIte]
      refine Le.frameS (by first | rfl | (simp only [go_sem]; try rfl)) ?_
      repeat' (first | exact leF_top _ | exact (fun _ => LeR.refl _) | (with_reducible refine leF_sl ?_ ?_) | (refine leF_upd ?_ ?_))
      all_goals (first | exact LeR.top _ | exact LeR.refl _ | (refine LeR.of_eq ?_; (try simp only [go_sem]); try rfl) | ((try simp only [go_sem]); try rfl))
    rintro ⟨⟨i, ver⟩, hi⟩ K0
    simp only at hi
    rcases Int.lt_or_le (i : Int) n with hlt | hge
    · have g5 : decide ((i : Int) < n) = true := decide_eq_true (by omega)
      repeat' (first
       | (with_reducible first | refine t_seq fun K => ?_ | refine t_block ?_ | refine t_scope ?_ | refine t_label ?_ | refine t_skip ?_ | refine t_exit ?_ | refine t_ret ?_ | refine t_k ?_ | refine t_gF ?_ | exact kp_nil | exact Kp.refl _ | exact kp_to | refine kp_cons ?_ | refine kp_arr ?_ | refine kp_app ?_ | refine t_p ?_ | refine t_br (fun hc => ?_) fun hc => ?_)
       | ((with_reducible first | refine t_kE (t_openE ?_) | refine t_kD (t_openD ?_) | refine t_kE ?_ | refine t_kD ?_ | refine t_gS ?_ | refine t_kL ?_ | refine t_kLF ?_ ?_ | refine t_region fun K => ?_ | refine t_cond fun A B => ?_ | refine t_draw (by kernel_rfl) fun K => ?_); (try (first | refine t_hideE fun KL => ?_ | refine t_hideD fun KL => ?_)); simp only [go_sem, geff, kp35, updL_cons, updL_nil, Int.toNat_natCast, g5, ils_app, ← inds_succ])
       | ((with_reducible refine kp_skip ?_ ?_); rfl) | simp only [thenQ, blockQ, scopeQ, Nat.reduceEqDiff, reduceIte] | (with_reducible first | refine And.intro ?_ ?_ | intro vr))
      all_goals try (first | (with_reducible assumption) | (intros; (try simp only [Bool.and_eq_true, Bool.or_eq_true, Bool.or_eq_false_iff, Bool.not_eq_true', Bool.not_eq_false', decide_eq_true_eq, decide_eq_false_iff_not, beq_iff_eq, beq_eq_false_iff_ne, bne_iff_ne, bne_eq_false_iff_eq, ne_eq, inI64, List.length_append] at *) <;> omega) | (intros; (with_reducible first | refine impB_ofR ?_ | refine and_ofB ?_ ?_) <;> with_reducible first | assumption | (refine impB_ofR ?_; assumption)) | ((try simp only [Bool.and_eq_true] at vr); simp only [impB, vr, Bool.or_true, Bool.true_or, Bool.and_self, Bool.not_true, Bool.not_false, Bool.and_true]; done))
      refine ⟨⟨(i + 1, ver + 1), by simp only; omega⟩, by first | (simp only; omega) | omega, ?_⟩
      simp only [updL_nil, updL_cons, delF_top, delF_upd, Nat.reduceEqDiff, reduceIte]
      refine Le.frameS (by first | rfl | (simp only [go_sem]; try rfl)) ?_
      repeat' (first | exact leF_top _ | exact (fun _ => LeR.refl _) | (with_reducible refine leF_sl ?_ ?_) | (refine leF_upd ?_ ?_))
      all_goals (first | exact LeR.top _ | exact LeR.refl _ | (refine LeR.of_eq ?_; (try simp only [go_sem]); try rfl) | ((try simp only [go_sem]); try rfl))
    · have g5 : decide ((i : Int) < n) = false := decide_eq_false (by omega)
      have e : n.toNat = i := by omega
      repeat' (first
       | (with_reducible first | refine t_seq fun K => ?_ | refine t_block ?_ | refine t_scope ?_ | refine t_label ?_ | refine t_skip ?_ | refine t_exit ?_ | refine t_ret ?_ | refine t_k ?_ | refine t_gF ?_ | exact kp_nil | exact Kp.refl _ | exact kp_to | refine kp_cons ?_ | refine kp_arr ?_ | refine kp_app ?_ | refine t_p ?_ | refine t_br (fun hc => ?_) fun hc => ?_)
       | ((with_reducible first | refine t_kE (t_openE ?_) | refine t_kD (t_openD ?_) | refine t_kE ?_ | refine t_kD ?_ | refine t_gS ?_ | refine t_kL ?_ | refine t_kLF ?_ ?_ | refine t_region fun K => ?_ | refine t_cond fun A B => ?_ | refine t_draw (by kernel_rfl) fun K => ?_); (try (first | refine t_hideE fun KL => ?_ | refine t_hideD fun KL => ?_)); simp only [go_sem, geff, kp35, updL_cons, updL_nil, Int.toNat_natCast, g5])
       | ((with_reducible refine kp_skip ?_ ?_); rfl) | simp only [thenQ, blockQ, scopeQ, Nat.reduceEqDiff, reduceIte] | (with_reducible first | refine And.intro ?_ ?_ | intro vr))
      all_goals try (first | (with_reducible assumption) | (intros; (try simp only [Bool.and_eq_true, Bool.or_eq_true, Bool.or_eq_false_iff, Bool.not_eq_true', Bool.not_eq_false', decide_eq_true_eq, decide_eq_false_iff_not, beq_iff_eq, beq_eq_false_iff_ne, bne_iff_ne, bne_eq_false_iff_eq, ne_eq, inI64, List.length_append] at *) <;> omega) | (intros; (with_reducible first | refine impB_ofR ?_ | refine and_ofB ?_ ?_) <;> with_reducible first | assumption | (refine impB_ofR ?_; assumption)) | ((try simp only [Bool.and_eq_true] at vr); simp only [impB, vr, Bool.or_true, Bool.true_or, Bool.and_self, Bool.not_true, Bool.not_false, Bool.and_true]; done))
      all_goals ((first | refine end_retE ?_ | refine end_normE ?_); simp only [fin, go_sem])
      rw [e]
      exact LeA.refl _
  · have g1 : (e != 0) = true := by simpa using h1
    rw [if_pos h1]
    refine pc_ofR E74_ok mixed (kp35) (rs := [.tmp 2, .tmp 3]) Try.func35 rfl (by kernel_rfl) (by kernel_rfl) (Nat.le_of_ble_eq_true rfl) ?_
    simp only [initF_cons, initF_nil, Nat.reduceAdd]
    refine t_name fun KF => ?_
    unfold E74
    repeat' (first
     | (with_reducible first | refine t_seq fun K => ?_ | refine t_block ?_ | refine t_scope ?_ | refine t_label ?_ | refine t_skip ?_ | refine t_exit ?_ | refine t_ret ?_ | refine t_k ?_ | refine t_gF ?_ | exact kp_nil | exact Kp.refl _ | exact kp_to | refine kp_cons ?_ | refine kp_arr ?_ | refine kp_app ?_ | refine t_p ?_ | refine t_br (fun hc => ?_) fun hc => ?_)
     | ((with_reducible first | refine t_kE (t_openE ?_) | refine t_kD (t_openD ?_) | refine t_kE ?_ | refine t_kD ?_ | refine t_gS ?_ | refine t_kL ?_ | refine t_kLF ?_ ?_ | refine t_region fun K => ?_ | refine t_cond fun A B => ?_ | refine t_draw (by kernel_rfl) fun K => ?_); (try (first | refine t_hideE fun KL => ?_ | refine t_hideD fun KL => ?_)); simp only [go_sem, geff, kp35, hS, g1])
     | ((with_reducible refine kp_skip ?_ ?_); rfl) | simp only [thenQ, blockQ, scopeQ, Nat.reduceEqDiff, reduceIte] | (with_reducible first | refine And.intro ?_ ?_ | intro vr))
    all_goals try (first | (with_reducible assumption) | (intros; (try simp only [Bool.and_eq_true, Bool.or_eq_true, Bool.or_eq_false_iff, Bool.not_eq_true', Bool.not_eq_false', decide_eq_true_eq, decide_eq_false_iff_not, beq_iff_eq, beq_eq_false_iff_ne, bne_iff_ne, bne_eq_false_iff_eq, ne_eq, inI64, List.length_append] at *) <;> omega) | (intros; (with_reducible first | refine impB_ofR ?_ | refine and_ofB ?_ ?_) <;> with_reducible first | assumption | (refine impB_ofR ?_; assumption)) | ((try simp only [Bool.and_eq_true] at vr); simp only [impB, vr, Bool.or_true, Bool.true_or, Bool.and_self, Bool.not_true, Bool.not_false, Bool.and_true]; done))
    all_goals ((first | refine end_retE ?_ | refine end_normE ?_); simp only [fin, go_sem])
    exact LeA.tup ⟨LeA.nil _ _, LeA.refl _, trivial⟩
noncomputable def con35 : PCon Try.prog where
  f := 35
  c := fun
    | [xfr] => match slK .i64 xfr with | some fr => some (fr.length ≤ 1000000, inV (indicesS fr)) | _ => none
    | _ => none
  ok := by
    intro args p r hc hp
    split at hc
    · split at hc
      · rename_i hfr
        cases hc
        exact PC.weak (rindices_pc hp) ⟨slK_le hfr, trivial⟩
      · cases hc
    · cases hc
  fk := fk35
theorem con35_f : con35.f = 35 := rfl
theorem con35_c {xfr : AV} : con35.c [xfr] = match slK .i64 xfr with | some fr => some (fr.length ≤ 1000000, inV (indicesS fr)) | _ => none := rfl
end Go.Proofs.Ytcjjakhmpffopaa

/- Lists with an array that is not valid. -/
namespace Go.Proofs.Ytcjjakhmpffopaa
open Go Go.Fw
set_option maxRecDepth 20000
attribute [go_sem] con60_f con60_c arrOf_agg slK_sl
noncomputable def E75 : Env := envJ (P := Try.prog) jk zer (fun _ => false) (fun _ => false) [con60] []
theorem E75_ok : EnvOk Try.prog E75 := envJOk zer_ok
theorem inval_pc {a : Arr} (h : okA a) : PC Try.prog 68 [arrV a] (.lit (.bool (!(ofE a == 0)))) := by
  obtain ⟨h1, h2⟩ := h
  simp only [arrV]
  refine pc_ofR E75_ok mixed (kp68) (rs := [.tmp 2]) Try.func68 rfl (by kernel_rfl) (by kernel_rfl) (Nat.le_of_ble_eq_true rfl) ?_
  simp only [initF_cons, initF_nil, Nat.reduceAdd]
  refine t_name fun KF => ?_
  unfold E75
  repeat' (first
   | (with_reducible first | refine t_seq fun K => ?_ | refine t_block ?_ | refine t_scope ?_ | refine t_label ?_ | refine t_skip ?_ | refine t_exit ?_ | refine t_ret ?_ | refine t_k ?_ | refine t_gF ?_ | exact kp_nil | exact Kp.refl _ | exact kp_to | refine kp_cons ?_ | refine kp_arr ?_ | refine kp_app ?_ | refine t_p ?_ | refine t_br (fun hc => ?_) fun hc => ?_)
   | ((with_reducible first | refine t_kE (t_openE ?_) | refine t_kD (t_openD ?_) | refine t_kE ?_ | refine t_kD ?_ | refine t_gS ?_ | refine t_kL ?_ | refine t_kLF ?_ ?_ | refine t_region fun K => ?_ | refine t_cond fun A B => ?_ | refine t_draw (by kernel_rfl) fun K => ?_); (try (first | refine t_hideE fun KL => ?_ | refine t_hideD fun KL => ?_)); simp only [go_sem, geff, kp68])
   | ((with_reducible refine kp_skip ?_ ?_); rfl) | simp only [thenQ, blockQ, scopeQ, Nat.reduceEqDiff, reduceIte] | (with_reducible first | refine And.intro ?_ ?_ | intro vr))
  all_goals try (first | (with_reducible assumption) | (intros; (try simp only [Bool.and_eq_true, Bool.or_eq_true, Bool.or_eq_false_iff, Bool.not_eq_true', Bool.not_eq_false', decide_eq_true_eq, decide_eq_false_iff_not, beq_iff_eq, beq_eq_false_iff_ne, bne_iff_ne, bne_eq_false_iff_eq, ne_eq, inI64, List.length_append] at *) <;> omega) | (intros; (with_reducible first | refine impB_ofR ?_ | refine and_ofB ?_ ?_) <;> with_reducible first | assumption | (refine impB_ofR ?_; assumption)) | ((try simp only [Bool.and_eq_true] at vr); simp only [impB, vr, Bool.or_true, Bool.true_or, Bool.and_self, Bool.not_true, Bool.not_false, Bool.and_true]; done))
  all_goals ((first | refine end_retE ?_ | refine end_normE ?_); simp only [fin, go_sem])
  exact LeA.refl _
noncomputable def con68 : PCon Try.prog where
  f := 68
  c := fun
    | [xa] => match arrOf xa with | some a => some (okA a, .lit (.bool (!(ofE a == 0)))) | _ => none
    | _ => none
  ok := by
    intro args p r hc hp
    split at hc
    · split at hc
      · rename_i ha
        cases hc
        exact PC.weak (inval_pc hp) ⟨arrOf_le ha, trivial⟩
      · cases hc
    · cases hc
  fk := fk68
theorem con68_f : con68.f = 68 := rfl
theorem con68_c {xa : AV} : con68.c [xa] = match arrOf xa with | some a => some (okA a, .lit (.bool (!(ofE a == 0)))) | _ => none := rfl
def idxA (p : Arr → Bool) : List Arr → Int → Int
  | [], _ => -1
  | d :: t, i => if p d = true then i else idxA p t (i + 1)
theorem idxA_any (p : Arr → Bool) : ∀ (l : List Arr) (i : Int), 0 ≤ i → decide (idxA p l i ≥ 0) = l.any p
  | [], _, _ => rfl
  | d :: t, i, hi => by
    unfold idxA
    by_cases h : p d = true
    · rw [if_pos h, List.any_cons, h, decide_eq_true hi]; rfl
    · rw [if_neg h, idxA_any p t (i + 1) (by omega), List.any_cons]
      simp only [Bool.not_eq_true] at h
      rw [h]; rfl
def invA (a : Arr) : Bool := !(ofE a == 0)
noncomputable def E76 : Env := envJ (P := Try.prog) jk zer (fun _ => false) (fun _ => false) [con68] []
theorem E76_ok : EnvOk Try.prog E76 := envJOk zer_ok
attribute [go_sem] con68_f con68_c
theorem idxa_pc {l : List Arr} (hl : l.length ≤ 1000000) (hk : ∀ a ∈ l, okA a) : PC Try.prog 92 [.sl false 3 (arrs l), .fn (.func 68) [] []] (.lit (.int .i64 (idxA invA l 0))) := by
  generalize hR : idxA invA l 0 = R
  refine pc_ofR E76_ok mixed (kp92) (rs := [.tmp 4]) Try.func92 rfl (by kernel_rfl) (by kernel_rfl) (Nat.le_of_ble_eq_true rfl) ?_
  simp only [initF_cons, initF_nil, Nat.reduceAdd]
  refine t_name fun KF => ?_
  unfold E76
  repeat' (first
   | (with_reducible first | refine t_seq fun K => ?_ | refine t_block ?_ | refine t_scope ?_ | refine t_label ?_ | refine t_skip ?_ | refine t_exit ?_ | refine t_ret ?_ | refine t_k ?_ | refine t_gF ?_ | exact kp_nil | exact Kp.refl _ | exact kp_to | refine kp_cons ?_ | refine kp_arr ?_ | refine kp_app ?_ | refine t_p ?_ | refine t_br (fun hc => ?_) fun hc => ?_)
   | ((with_reducible first | refine t_kE (t_openE ?_) | refine t_kD (t_openD ?_) | refine t_kE ?_ | refine t_kD ?_ | refine t_gS ?_ | refine t_kL ?_ | refine t_kLF ?_ ?_ | refine t_region fun K => ?_ | refine t_cond fun A B => ?_ | refine t_draw (by kernel_rfl) fun K => ?_); (try (first | refine t_hideE fun KL => ?_ | refine t_hideD fun KL => ?_)); simp only [go_sem, geff, kp92, arrs_length])
   | ((with_reducible refine kp_skip ?_ ?_); rfl) | simp only [thenQ, blockQ, scopeQ, Nat.reduceEqDiff, reduceIte] | (with_reducible first | refine And.intro ?_ ?_ | intro vr))
  all_goals try (first | (with_reducible assumption) | (intros; (try simp only [Bool.and_eq_true, Bool.or_eq_true, Bool.or_eq_false_iff, Bool.not_eq_true', Bool.not_eq_false', decide_eq_true_eq, decide_eq_false_iff_not, beq_iff_eq, beq_eq_false_iff_ne, bne_iff_ne, bne_eq_false_iff_eq, ne_eq, inI64, List.length_append] at *) <;> omega) | (intros; (with_reducible first | refine impB_ofR ?_ | refine and_ofB ?_ ?_) <;> with_reducible first | assumption | (refine impB_ofR ?_; assumption)) | ((try simp only [Bool.and_eq_true] at vr); simp only [impB, vr, Bool.or_true, Bool.true_or, Bool.and_self, Bool.not_true, Bool.not_false, Bool.and_true]; done))
  refine t_loopF (ι := { i : Nat // i ≤ l.length ∧ idxA invA (l.drop i) i = R }) (fun i => [(8, .lit (.int .i64 i.1))]) (fun i => []) (fun i => l.length - i.1) ⟨0, by omega, hR⟩ ?_ ?_
  · simp only [updL_nil, updL_cons, delF_top, delF_upd, Nat.reduceEqDiff, reduceIte]
    refine Le.frameS (by first | rfl | (simp only [go_sem]; try rfl)) ?_
    repeat' (first | exact leF_top _ | exact (fun _ => LeR.refl _) | (with_reducible refine leF_sl ?_ ?_) | (refine leF_upd ?_ ?_))
    all_goals (first | exact LeR.top _ | exact LeR.refl _ | (refine LeR.of_eq ?_; (try simp only [go_sem]); try rfl) | ((try simp only [go_sem]); try rfl))
  rintro ⟨i, hi, hF⟩ K0
  rcases Nat.lt_or_ge i l.length with hc | hc
  · rw [drop_getD nilA hc, idxA] at hF
    have g3 : decide ((i : Int) < (l.length : Int)) = true := decide_eq_true (by omega)
    have hm : okA (l.getD i nilA) := hk _ (getD_mem nilA hc)
    cases h4 : (ofE (l.getD i nilA) == 0) with
    | true =>
      rw [if_neg (by unfold invA; rw [h4]; decide)] at hF
      repeat' (first
       | (with_reducible first | refine t_seq fun K => ?_ | refine t_block ?_ | refine t_scope ?_ | refine t_label ?_ | refine t_skip ?_ | refine t_exit ?_ | refine t_ret ?_ | refine t_k ?_ | refine t_gF ?_ | exact kp_nil | exact Kp.refl _ | exact kp_to | refine kp_cons ?_ | refine kp_arr ?_ | refine kp_app ?_ | refine t_p ?_ | refine t_br (fun hc => ?_) fun hc => ?_)
       | ((with_reducible first | refine t_kE (t_openE ?_) | refine t_kD (t_openD ?_) | refine t_kE ?_ | refine t_kD ?_ | refine t_gS ?_ | refine t_kL ?_ | refine t_kLF ?_ ?_ | refine t_region fun K => ?_ | refine t_cond fun A B => ?_ | refine t_draw (by kernel_rfl) fun K => ?_); (try (first | refine t_hideE fun KL => ?_ | refine t_hideD fun KL => ?_)); simp only [go_sem, geff, kp92, g3, Int.toNat_natCast, arrs_length, arrV, arrOf_agg, slK_sl, h4, Bool.not_true])
       | ((with_reducible refine kp_skip ?_ ?_); rfl) | simp only [thenQ, blockQ, scopeQ, Nat.reduceEqDiff, reduceIte] | (with_reducible first | refine And.intro ?_ ?_ | intro vr))
      all_goals try (first | (with_reducible assumption) | (intros; (try simp only [Bool.and_eq_true, Bool.or_eq_true, Bool.or_eq_false_iff, Bool.not_eq_true', Bool.not_eq_false', decide_eq_true_eq, decide_eq_false_iff_not, beq_iff_eq, beq_eq_false_iff_ne, bne_iff_ne, bne_eq_false_iff_eq, ne_eq, inI64, List.length_append] at *) <;> omega) | (intros; (with_reducible first | refine impB_ofR ?_ | refine and_ofB ?_ ?_) <;> with_reducible first | assumption | (refine impB_ofR ?_; assumption)) | ((try simp only [Bool.and_eq_true] at vr); simp only [impB, vr, Bool.or_true, Bool.true_or, Bool.and_self, Bool.not_true, Bool.not_false, Bool.and_true]; done))
      refine ⟨⟨i + 1, by omega, by rw [← hF]; congr 1⟩, by first | (simp only; omega) | omega, ?_⟩
      simp only [updL_nil, updL_cons, delF_top, delF_upd, Nat.reduceEqDiff, reduceIte]
      refine Le.frameS (by first | rfl | (simp only [go_sem]; try rfl)) ?_
      repeat' (first | exact leF_top _ | exact (fun _ => LeR.refl _) | (with_reducible refine leF_sl ?_ ?_) | (refine leF_upd ?_ ?_))
      all_goals (first | exact LeR.top _ | exact LeR.refl _ | (refine LeR.of_eq ?_; (try simp only [go_sem]); try rfl) | ((try simp only [go_sem]); try rfl))
    | false =>
      rw [if_pos (by unfold invA; rw [h4]; decide)] at hF
      repeat' (first
       | (with_reducible first | refine t_seq fun K => ?_ | refine t_block ?_ | refine t_scope ?_ | refine t_label ?_ | refine t_skip ?_ | refine t_exit ?_ | refine t_ret ?_ | refine t_k ?_ | refine t_gF ?_ | exact kp_nil | exact Kp.refl _ | exact kp_to | refine kp_cons ?_ | refine kp_arr ?_ | refine kp_app ?_ | refine t_p ?_ | refine t_br (fun hc => ?_) fun hc => ?_)
       | ((with_reducible first | refine t_kE (t_openE ?_) | refine t_kD (t_openD ?_) | refine t_kE ?_ | refine t_kD ?_ | refine t_gS ?_ | refine t_kL ?_ | refine t_kLF ?_ ?_ | refine t_region fun K => ?_ | refine t_cond fun A B => ?_ | refine t_draw (by kernel_rfl) fun K => ?_); (try (first | refine t_hideE fun KL => ?_ | refine t_hideD fun KL => ?_)); simp only [go_sem, geff, kp92, g3, Int.toNat_natCast, arrs_length, arrV, arrOf_agg, slK_sl, h4, Bool.not_false])
       | ((with_reducible refine kp_skip ?_ ?_); rfl) | simp only [thenQ, blockQ, scopeQ, Nat.reduceEqDiff, reduceIte] | (with_reducible first | refine And.intro ?_ ?_ | intro vr))
      all_goals try (first | (with_reducible assumption) | (intros; (try simp only [Bool.and_eq_true, Bool.or_eq_true, Bool.or_eq_false_iff, Bool.not_eq_true', Bool.not_eq_false', decide_eq_true_eq, decide_eq_false_iff_not, beq_iff_eq, beq_eq_false_iff_ne, bne_iff_ne, bne_eq_false_iff_eq, ne_eq, inI64, List.length_append] at *) <;> omega) | (intros; (with_reducible first | refine impB_ofR ?_ | refine and_ofB ?_ ?_) <;> with_reducible first | assumption | (refine impB_ofR ?_; assumption)) | ((try simp only [Bool.and_eq_true] at vr); simp only [impB, vr, Bool.or_true, Bool.true_or, Bool.and_self, Bool.not_true, Bool.not_false, Bool.and_true]; done))
      all_goals ((first | refine end_retE ?_ | refine end_normE ?_); simp only [fin, go_sem])
      exact LeA.of_eq (by rw [← hF])
  · have g3 : decide ((i : Int) < (l.length : Int)) = false := decide_eq_false (by omega)
    rw [List.drop_eq_nil_of_le (by omega), idxA] at hF
    repeat' (first
     | (with_reducible first | refine t_seq fun K => ?_ | refine t_block ?_ | refine t_scope ?_ | refine t_label ?_ | refine t_skip ?_ | refine t_exit ?_ | refine t_ret ?_ | refine t_k ?_ | refine t_gF ?_ | exact kp_nil | exact Kp.refl _ | exact kp_to | refine kp_cons ?_ | refine kp_arr ?_ | refine kp_app ?_ | refine t_p ?_ | refine t_br (fun hc => ?_) fun hc => ?_)
     | ((with_reducible first | refine t_kE (t_openE ?_) | refine t_kD (t_openD ?_) | refine t_kE ?_ | refine t_kD ?_ | refine t_gS ?_ | refine t_kL ?_ | refine t_kLF ?_ ?_ | refine t_region fun K => ?_ | refine t_cond fun A B => ?_ | refine t_draw (by kernel_rfl) fun K => ?_); (try (first | refine t_hideE fun KL => ?_ | refine t_hideD fun KL => ?_)); simp only [go_sem, geff, kp92, g3, Int.toNat_natCast, arrs_length])
     | ((with_reducible refine kp_skip ?_ ?_); rfl) | simp only [thenQ, blockQ, scopeQ, Nat.reduceEqDiff, reduceIte] | (with_reducible first | refine And.intro ?_ ?_ | intro vr))
    all_goals try (first | (with_reducible assumption) | (intros; (try simp only [Bool.and_eq_true, Bool.or_eq_true, Bool.or_eq_false_iff, Bool.not_eq_true', Bool.not_eq_false', decide_eq_true_eq, decide_eq_false_iff_not, beq_iff_eq, beq_eq_false_iff_ne, bne_iff_ne, bne_eq_false_iff_eq, ne_eq, inI64, List.length_append] at *) <;> omega) | (intros; (with_reducible first | refine impB_ofR ?_ | refine and_ofB ?_ ?_) <;> with_reducible first | assumption | (refine impB_ofR ?_; assumption)) | ((try simp only [Bool.and_eq_true] at vr); simp only [impB, vr, Bool.or_true, Bool.true_or, Bool.and_self, Bool.not_true, Bool.not_false, Bool.and_true]; done))
    all_goals ((first | refine end_retE ?_ | refine end_normE ?_); simp only [fin, go_sem])
    exact LeA.of_eq (by rw [← hF])
noncomputable def con92 : PCon Try.prog where
  f := 92
  c := fun
    | [x, .fn (.func 68) [] []] => match arrsOf x with | some l => some (l.length ≤ 1000000 ∧ ∀ a ∈ l, okA a, .lit (.int .i64 (idxA invA l 0))) | _ => none
    | _ => none
  ok := by
    intro args p r hc hp
    split at hc
    · split at hc
      · rename_i hx
        cases hc
        exact PC.weak (idxa_pc hp.1 hp.2) ⟨arrsOf_le hx, LeA.refl _, trivial⟩
      · cases hc
    · cases hc
  fk := fk92
theorem con92_f : con92.f = 92 := rfl
theorem con92_c {x : AV} : con92.c [x, .fn (.func 68) [] []] = match arrsOf x with | some l => some (l.length ≤ 1000000 ∧ ∀ a ∈ l, okA a, .lit (.int .i64 (idxA invA l 0))) | _ => none := rfl
attribute [go_sem] con92_f con92_c
noncomputable def E77 : Env := envJ (P := Try.prog) jk zer (fun _ => false) (fun _ => false) [con92] []
theorem E77_ok : EnvOk Try.prog E77 := envJOk zer_ok
theorem anya_pc {l : List Arr} (hl : l.length ≤ 1000000) (hk : ∀ a ∈ l, okA a) : PC Try.prog 67 [.sl false 3 (arrs l), .fn (.func 68) [] []] (.lit (.bool (l.any invA))) := by
  rw [← idxA_any invA l 0 (by omega)]
  refine pc_ofR E77_ok mixed (kp67) (rs := [.tmp 4]) Try.func67 rfl (by kernel_rfl) (by kernel_rfl) (Nat.le_of_ble_eq_true rfl) ?_
  simp only [initF_cons, initF_nil, Nat.reduceAdd]
  refine t_name fun KF => ?_
  unfold E77
  repeat' (first
   | (with_reducible first | refine t_seq fun K => ?_ | refine t_block ?_ | refine t_scope ?_ | refine t_label ?_ | refine t_skip ?_ | refine t_exit ?_ | refine t_ret ?_ | refine t_k ?_ | refine t_gF ?_ | exact kp_nil | exact Kp.refl _ | exact kp_to | refine kp_cons ?_ | refine kp_arr ?_ | refine kp_app ?_ | refine t_p ?_ | refine t_br (fun hc => ?_) fun hc => ?_)
   | ((with_reducible first | refine t_kE (t_openE ?_) | refine t_kD (t_openD ?_) | refine t_kE ?_ | refine t_kD ?_ | refine t_gS ?_ | refine t_kL ?_ | refine t_kLF ?_ ?_ | refine t_region fun K => ?_ | refine t_cond fun A B => ?_ | refine t_draw (by kernel_rfl) fun K => ?_); (try (first | refine t_hideE fun KL => ?_ | refine t_hideD fun KL => ?_)); simp only [go_sem, geff, kp67, arrsOf_sl])
   | ((with_reducible refine kp_skip ?_ ?_); rfl) | simp only [thenQ, blockQ, scopeQ, Nat.reduceEqDiff, reduceIte] | (with_reducible first | refine And.intro ?_ ?_ | intro vr))
  all_goals try (first | (with_reducible assumption) | (intros; (try simp only [Bool.and_eq_true, Bool.or_eq_true, Bool.or_eq_false_iff, Bool.not_eq_true', Bool.not_eq_false', decide_eq_true_eq, decide_eq_false_iff_not, beq_iff_eq, beq_eq_false_iff_ne, bne_iff_ne, bne_eq_false_iff_eq, ne_eq, inI64, List.length_append] at *) <;> omega) | (intros; (with_reducible first | refine impB_ofR ?_ | refine and_ofB ?_ ?_) <;> with_reducible first | assumption | (refine impB_ofR ?_; assumption)) | ((try simp only [Bool.and_eq_true] at vr); simp only [impB, vr, Bool.or_true, Bool.true_or, Bool.and_self, Bool.not_true, Bool.not_false, Bool.and_true]; done))
  all_goals try exact hk _ (by assumption)
  all_goals ((first | refine end_retE ?_ | refine end_normE ?_); simp only [fin, go_sem])
  exact LeA.refl _
noncomputable def con67 : PCon Try.prog where
  f := 67
  c := fun
    | [x, .fn (.func 68) [] []] => match arrsOf x with | some l => some (l.length ≤ 1000000 ∧ ∀ a ∈ l, okA a, .lit (.bool (l.any invA))) | _ => none
    | _ => none
  ok := by
    intro args p r hc hp
    split at hc
    · split at hc
      · rename_i hx
        cases hc
        exact PC.weak (anya_pc hp.1 hp.2) ⟨arrsOf_le hx, LeA.refl _, trivial⟩
      · cases hc
    · cases hc
  fk := fk67
theorem con67_f : con67.f = 67 := rfl
theorem con67_c {x : AV} : con67.c [x, .fn (.func 68) [] []] = match arrsOf x with | some l => some (l.length ≤ 1000000 ∧ ∀ a ∈ l, okA a, .lit (.bool (l.any invA))) | _ => none := rfl
attribute [go_sem] con67_f con67_c
end Go.Proofs.Ytcjjakhmpffopaa

/- slices.Grow of nothing: a new array without elements. -/
set_option linter.unusedVariables false
namespace Go.Proofs
open Go.RowKit
set_option maxHeartbeats 2000000 in
set_option maxRecDepth 100000 in
theorem Try.grow_run (n : Nat) (h0 : 0 < n) (h63 : n ≤ 1000000) (w : World) :
    Calls Try.prog 93 #[.slice none 0 0, .int .i64 n] w fun e w' => e = .returned (.slice (some ⟨w.heap.size, 0, none⟩) 0 (grownCap w n 0 3)) ∧ ∃ cur, cur.size = grownCap w n 0 3 ∧ w' = w.drew.alloc (.cells cur 3) := by
  obtain ⟨i0, hi, hz0, hz1, hz2⟩ := info_parts (show (Try.prog.info? 3).map (fun i => (i.zero, i.size, i.bytes)) = some (some (.int .i64 0), 1, 8) from by kernel_rfl)
  have h := Lib.run_append_nil_zeros (P := Try.prog) w 23 3 23 3 i0 (.int .i64 0) .i64 .i64 Try.underlying23 Try.underlying3 hi hz0 n h0 (by omega) (by omega) (by rw [hz2]; omega)
  go_enter Try.func93, Try.ntmps93
  go_wp2_with (at_builtin; refine Lib.wpList_append_run _ rfl _ _ _ _ rfl _ _ rfl rfl _ _ h ?_)
  go_ret
  exact ⟨rfl, _, by have := grownCap_ge w n 0 3; simp [size_zeroCells]; omega, rfl⟩
set_option maxHeartbeats 2000000 in
set_option maxRecDepth 100000 in
theorem Try.grow_zero (w : World) : Calls Try.prog 93 #[.slice none 0 0, .int .i64 0] w fun e w' => e = .returned (.slice none 0 0) ∧ w' = w := by
  go_enter Try.func93, Try.ntmps93
  go_wp2
  go_ret
  exact ⟨rfl, rfl⟩
namespace Ytcjjakhmpffopaa
open Go.Fw
theorem grow_ec {n : Nat} (h0 : 0 < n) (hn : n ≤ 1000000) {σ : List AObj} {k : AV → List AObj → Prop} (hk : k (.arr σ.length 0) (σ ++ [.arr 3 1 [] 0 false])) : EC Try.prog 93 [.lit (.slice none 0 0), .lit (.int .i64 n)] σ k := by
  intro cx G w vs hr hl
  obtain ⟨h1, h2⟩ := hl
  match vs, h1 with
  | [a, b], _ =>
    have ha := (show R G (.lit (.slice none 0 0)) a from h2 0 (by simp)).lit_inv
    have hb := (show R G (.lit (.int .i64 n)) b from h2 1 (by simp)).lit_inv
    subst ha; subst hb
    refine (Try.grow_run n h0 hn w).mono ?_
    rintro e w' ⟨rfl, cur, hc, rfl⟩
    have hge := grownCap_ge w n 0 3
    obtain ⟨G', g1, g2, g3⟩ := (hr.more (More.drawn w (w.drawn + 1))).newArr 3 1 (xs := []) (cur := cur) (cap := grownCap w n 0 3) (fz := (0, 0)) ⟨by simp, by simp, by simp⟩ (by omega) (by simp) (grownCap_le_maxLen w n 0 3 (by unfold maxLen; omega)) (by omega) ⟨Nat.le_refl _, fun off _ h => by simp at h⟩
    exact ⟨_, G', _, _, rfl, g1, g2, g3, hk⟩
theorem grow_ec0 {σ : List AObj} {k : AV → List AObj → Prop} (hk : k (.lit (.slice none 0 0)) σ) : EC Try.prog 93 [.lit (.slice none 0 0), .lit (.int .i64 0)] σ k := by
  intro cx G w vs hr hl
  obtain ⟨h1, h2⟩ := hl
  match vs, h1 with
  | [a, b], _ =>
    have ha := (show R G (.lit (.slice none 0 0)) a from h2 0 (by simp)).lit_inv
    have hb := (show R G (.lit (.int .i64 0)) b from h2 1 (by simp)).lit_inv
    subst ha; subst hb
    refine (Try.grow_zero w).mono ?_
    rintro e w' ⟨rfl, rfl⟩
    exact ⟨_, G, _, _, rfl, Gh.le.refl G, hr, .clo _ _ (.lit _), hk⟩
end Ytcjjakhmpffopaa
end Go.Proofs

/- slices.Concat of lists of integers. -/
namespace Go.Proofs.Ytcjjakhmpffopaa
open Go Go.Fw
set_option maxRecDepth 20000
noncomputable def ecn93 : ECon Try.prog where
  f := 93
  c := fun args σ k => match args with
    | [.lit (.slice none 0 0), .lit (.int .i64 n)] => 0 ≤ n ∧ n ≤ 1000000 ∧ (n = 0 → k (.lit (.slice none 0 0)) σ) ∧ (n ≠ 0 → k (.arr σ.length 0) (σ ++ [.arr 3 1 [] 0 false]))
    | _ => False
  ok := by
    intro args σ k h
    split at h
    · rename_i n
      obtain ⟨m, rfl⟩ : ∃ m : Nat, n = m := ⟨n.toNat, by omega⟩
      rcases Nat.eq_zero_or_pos m with rfl | hm
      · exact grow_ec0 (h.2.2.1 rfl)
      · exact grow_ec hm (by omega) (h.2.2.2 (by omega))
    · exact h.elim
  fk := fk93
theorem ecn93_f : ecn93.f = 93 := rfl
theorem ecn93_c {n : Int} {σ : List AObj} {k : AV → List AObj → Prop} : ecn93.c [.lit (.slice none 0 0), .lit (.int .i64 n)] σ k = (0 ≤ n ∧ n ≤ 1000000 ∧ (n = 0 → k (.lit (.slice none 0 0)) σ) ∧ (n ≠ 0 → k (.arr σ.length 0) (σ ++ [.arr 3 1 [] 0 false]))) := rfl
attribute [go_sem] ecn93_f ecn93_c
noncomputable def E78 : Env := envJ (P := Try.prog) jk zer (fun _ => false) (fun _ => false) [] [ecn93]
theorem E78_ok : EnvOk Try.prog E78 := envJOk zer_ok
theorem flat_take {L : List (List Int)} {i : Nat} (h : i < L.length) : (L.take (i + 1)).flatten = (L.take i).flatten ++ L.getD i [] := by
  rw [List.take_add_one, List.getElem?_eq_getElem h, List.getD_eq_getElem?_getD, List.getElem?_eq_getElem h, List.flatten_append]; simp
theorem flat_le (L : List (List Int)) (i : Nat) : (L.take i).flatten.length ≤ L.flatten.length := by
  have h : L.flatten = (L.take i).flatten ++ (L.drop i).flatten := by rw [← List.flatten_append, List.take_append_drop]
  rw [h, List.length_append]; omega
set_option maxHeartbeats 4000000 in
theorem concat_pc {L : List (List Int)} (hl : L.flatten.length ≤ 1000000) (hL : L.length ≤ 1000000) : PC Try.prog 69 [.sl false 1 (ils L)] (.sl false 1 (ints .i64 L.flatten)) := by
  refine pc_ofR E78_ok mixed (kp69) (rs := [.tmp 2]) Try.func69 rfl (by kernel_rfl) (by kernel_rfl) (Nat.le_of_ble_eq_true rfl) ?_
  simp only [initF_cons, initF_nil, Nat.reduceAdd]
  refine t_name fun KF => ?_
  unfold E78
  repeat' (first
   | (with_reducible first | refine t_seq fun K => ?_ | refine t_block ?_ | refine t_scope ?_ | refine t_label ?_ | refine t_skip ?_ | refine t_exit ?_ | refine t_ret ?_ | refine t_k ?_ | refine t_gF ?_ | exact kp_nil | exact Kp.refl _ | exact kp_to | refine kp_cons ?_ | refine kp_arr ?_ | refine kp_app ?_ | refine t_p ?_ | refine t_br (fun hc => ?_) fun hc => ?_)
   | ((with_reducible first | refine t_kE (t_openE ?_) | refine t_kD (t_openD ?_) | refine t_kE ?_ | refine t_kD ?_ | refine t_gS ?_ | refine t_kL ?_ | refine t_kLF ?_ ?_ | refine t_region fun K => ?_ | refine t_cond fun A B => ?_ | refine t_draw (by kernel_rfl) fun K => ?_); (try (first | refine t_hideE fun KL => ?_ | refine t_hideD fun KL => ?_)); simp only [go_sem, geff, kp69])
   | ((with_reducible refine kp_skip ?_ ?_); rfl) | simp only [thenQ, blockQ, scopeQ, Nat.reduceEqDiff, reduceIte] | (with_reducible first | refine And.intro ?_ ?_ | intro vr))
  all_goals try (first | (with_reducible assumption) | (intros; (try simp only [Bool.and_eq_true, Bool.or_eq_true, Bool.or_eq_false_iff, Bool.not_eq_true', Bool.not_eq_false', decide_eq_true_eq, decide_eq_false_iff_not, beq_iff_eq, beq_eq_false_iff_ne, bne_iff_ne, bne_eq_false_iff_eq, ne_eq, inI64, List.length_append] at *) <;> omega) | (intros; (with_reducible first | refine impB_ofR ?_ | refine and_ofB ?_ ?_) <;> with_reducible first | assumption | (refine impB_ofR ?_; assumption)) | ((try simp only [Bool.and_eq_true] at vr); simp only [impB, vr, Bool.or_true, Bool.true_or, Bool.and_self, Bool.not_true, Bool.not_false, Bool.and_true]; done))
  refine t_loopF (ι := { i : Nat // i ≤ L.length }) (fun i => [(11, .lit (.int .i64 i.1)), (3, .lit (.int .i64 (L.take i.1).flatten.length))]) (fun i => []) (fun i => L.length - i.1) ⟨0, by omega⟩ ?_ ?_
  · simp only [updL_nil, updL_cons, delF_top, delF_upd, Nat.reduceEqDiff, reduceIte]
    refine Le.frameS (by first | rfl | (simp only [go_sem]; try rfl)) ?_
    repeat' (first | exact leF_top _ | exact (fun _ => LeR.refl _) | (with_reducible refine leF_sl ?_ ?_) | (refine leF_upd ?_ ?_))
    all_goals (first | exact LeR.top _ | exact LeR.refl _ | (refine LeR.of_eq ?_; (try simp only [go_sem]); try rfl) | ((try simp only [go_sem]); try rfl))
  rintro ⟨i, hi⟩ K0
  rcases Nat.lt_or_ge i L.length with hc | hc
  · have g3 : decide ((i : Int) < (L.length : Int)) = true := decide_eq_true (by omega)
    have hf := flat_take hc
    have hle := flat_le L (i + 1)
    have hlen := congrArg List.length hf
    rw [List.length_append] at hlen
    have g8 : ((L.take i).flatten.length : Int) + ((L.getD i []).length : Int) = ((L.take (i + 1)).flatten.length : Nat) := by omega
    have g9 : decide ((((L.take (i + 1)).flatten.length : Nat) : Int) < 0) = false := decide_eq_false (by omega)
    repeat' (first
     | (with_reducible first | refine t_seq fun K => ?_ | refine t_block ?_ | refine t_scope ?_ | refine t_label ?_ | refine t_skip ?_ | refine t_exit ?_ | refine t_ret ?_ | refine t_k ?_ | refine t_gF ?_ | exact kp_nil | exact Kp.refl _ | exact kp_to | refine kp_cons ?_ | refine kp_arr ?_ | refine kp_app ?_ | refine t_p ?_ | refine t_br (fun hc => ?_) fun hc => ?_)
     | ((with_reducible first | refine t_kE (t_openE ?_) | refine t_kD (t_openD ?_) | refine t_kE ?_ | refine t_kD ?_ | refine t_gS ?_ | refine t_kL ?_ | refine t_kLF ?_ ?_ | refine t_region fun K => ?_ | refine t_cond fun A B => ?_ | refine t_draw (by kernel_rfl) fun K => ?_); (try (first | refine t_hideE fun KL => ?_ | refine t_hideD fun KL => ?_)); simp only [go_sem, geff, kp69, updL_cons, updL_nil, Int.toNat_natCast, g3, g8, g9])
     | ((with_reducible refine kp_skip ?_ ?_); rfl) | simp only [thenQ, blockQ, scopeQ, Nat.reduceEqDiff, reduceIte] | (with_reducible first | refine And.intro ?_ ?_ | intro vr))
    all_goals try (first | (with_reducible assumption) | (intros; (try simp only [Bool.and_eq_true, Bool.or_eq_true, Bool.or_eq_false_iff, Bool.not_eq_true', Bool.not_eq_false', decide_eq_true_eq, decide_eq_false_iff_not, beq_iff_eq, beq_eq_false_iff_ne, bne_iff_ne, bne_eq_false_iff_eq, ne_eq, inI64, List.length_append] at *) <;> omega) | (intros; (with_reducible first | refine impB_ofR ?_ | refine and_ofB ?_ ?_) <;> with_reducible first | assumption | (refine impB_ofR ?_; assumption)) | ((try simp only [Bool.and_eq_true] at vr); simp only [impB, vr, Bool.or_true, Bool.true_or, Bool.and_self, Bool.not_true, Bool.not_false, Bool.and_true]; done))
    refine ⟨⟨i + 1, by omega⟩, by first | (simp only; omega) | omega, ?_⟩
    simp only [updL_nil, updL_cons, delF_top, delF_upd, Nat.reduceEqDiff, reduceIte]
    refine Le.frameS (by first | rfl | (simp only [go_sem]; try rfl)) ?_
    repeat' (first | exact leF_top _ | exact (fun _ => LeR.refl _) | (with_reducible refine leF_sl ?_ ?_) | (refine leF_upd ?_ ?_))
    all_goals (first | exact LeR.top _ | exact LeR.refl _ | (refine LeR.of_eq ?_; (try simp only [go_sem]); try rfl) | ((try simp only [go_sem]); try rfl))
  · have g3 : decide ((i : Int) < (L.length : Int)) = false := decide_eq_false (by omega)
    have e : L.take i = L := List.take_of_length_le hc
    have z0 : L.take 0 = [] := List.take_zero
    rcases Nat.eq_zero_or_pos L.flatten.length with ht | ht
    · have g4 : ((L.flatten.length : Nat) : Int) = 0 := by omega
      repeat' (first
       | (with_reducible first | refine t_seq fun K => ?_ | refine t_block ?_ | refine t_scope ?_ | refine t_label ?_ | refine t_skip ?_ | refine t_exit ?_ | refine t_ret ?_ | refine t_k ?_ | refine t_gF ?_ | exact kp_nil | exact Kp.refl _ | exact kp_to | refine kp_cons ?_ | refine kp_arr ?_ | refine kp_app ?_ | refine t_p ?_ | refine t_br (fun hc => ?_) fun hc => ?_)
       | ((with_reducible first | refine t_kE (t_openE ?_) | refine t_kD (t_openD ?_) | refine t_kE ?_ | refine t_kD ?_ | refine t_gS ?_ | refine t_kL ?_ | refine t_kLF ?_ ?_ | refine t_region fun K => ?_ | refine t_cond fun A B => ?_ | refine t_draw (by kernel_rfl) fun K => ?_); (try (first | refine t_hideE fun KL => ?_ | refine t_hideD fun KL => ?_)); simp only [go_sem, geff, kp69, updL_cons, updL_nil, Int.toNat_natCast, g3, e, g4, true_imp_iff, ne_eq, not_true_eq_false, false_imp_iff])
       | ((with_reducible refine kp_skip ?_ ?_); rfl) | simp only [thenQ, blockQ, scopeQ, Nat.reduceEqDiff, reduceIte] | (with_reducible first | refine And.intro ?_ ?_ | intro vr))
      all_goals try (first | (with_reducible assumption) | (intros; (try simp only [Bool.and_eq_true, Bool.or_eq_true, Bool.or_eq_false_iff, Bool.not_eq_true', Bool.not_eq_false', decide_eq_true_eq, decide_eq_false_iff_not, beq_iff_eq, beq_eq_false_iff_ne, bne_iff_ne, bne_eq_false_iff_eq, ne_eq, inI64, List.length_append] at *) <;> omega) | (intros; (with_reducible first | refine impB_ofR ?_ | refine and_ofB ?_ ?_) <;> with_reducible first | assumption | (refine impB_ofR ?_; assumption)) | ((try simp only [Bool.and_eq_true] at vr); simp only [impB, vr, Bool.or_true, Bool.true_or, Bool.and_self, Bool.not_true, Bool.not_false, Bool.and_true]; done))
      refine t_loopF (ι := { p : Nat × Nat // p.1 ≤ L.length }) (fun i => [(27, .lit (.int .i64 i.1.1)), (6, .arr 0 i.1.2)]) (fun i => [.arr 3 1 (ints .i64 (L.take i.1.1).flatten) i.1.2 false]) (fun i => L.length - i.1.1) ⟨(0, 0), by simp⟩ ?_ ?_
      · refine (le_nil 6 3 1 rfl).trans ?_
        simp only [updL_nil, updL_cons, delF_top, delF_upd, Nat.reduceEqDiff, reduceIte]
        refine Le.frameS (by first | rfl | (simp only [go_sem]; try rfl)) ?_
        repeat' (first | exact leF_top _ | exact (fun _ => LeR.refl _) | (with_reducible refine leF_sl ?_ ?_) | (refine leF_upd ?_ ?_))
        all_goals (first | exact LeR.top _ | exact LeR.refl _ | (refine LeR.of_eq ?_; (try simp only [go_sem]); try rfl) | ((try simp only [go_sem]); try rfl))
      rintro ⟨⟨i, ver⟩, hi⟩ K1
      simp only at hi
      rcases Nat.lt_or_ge i L.length with hc | hc
      · have g3 : decide ((i : Int) < (L.length : Int)) = true := decide_eq_true (by omega)
        have hf := flat_take hc
        have hle := flat_le L (i + 1)
        have hlen := congrArg List.length hf
        rw [List.length_append] at hlen
        repeat' (first
         | (with_reducible first | refine t_seq fun K => ?_ | refine t_block ?_ | refine t_scope ?_ | refine t_label ?_ | refine t_skip ?_ | refine t_exit ?_ | refine t_ret ?_ | refine t_k ?_ | refine t_gF ?_ | exact kp_nil | exact Kp.refl _ | exact kp_to | refine kp_cons ?_ | refine kp_arr ?_ | refine kp_app ?_ | refine t_p ?_ | refine t_br (fun hc => ?_) fun hc => ?_)
         | ((with_reducible first | refine t_kE (t_openE ?_) | refine t_kD (t_openD ?_) | refine t_kE ?_ | refine t_kD ?_ | refine t_gS ?_ | refine t_kL ?_ | refine t_kLF ?_ ?_ | refine t_region fun K => ?_ | refine t_cond fun A B => ?_ | refine t_draw (by kernel_rfl) fun K => ?_); (try (first | refine t_hideE fun KL => ?_ | refine t_hideD fun KL => ?_)); simp only [go_sem, geff, kp69, updL_cons, updL_nil, Int.toNat_natCast, g3, ints_append, ← hf])
         | ((with_reducible refine kp_skip ?_ ?_); rfl) | simp only [thenQ, blockQ, scopeQ, Nat.reduceEqDiff, reduceIte] | (with_reducible first | refine And.intro ?_ ?_ | intro vr))
        all_goals try (first | (with_reducible assumption) | (intros; (try simp only [Bool.and_eq_true, Bool.or_eq_true, Bool.or_eq_false_iff, Bool.not_eq_true', Bool.not_eq_false', decide_eq_true_eq, decide_eq_false_iff_not, beq_iff_eq, beq_eq_false_iff_ne, bne_iff_ne, bne_eq_false_iff_eq, ne_eq, inI64, ints_length] at *) <;> omega) | (intros; (with_reducible first | refine impB_ofR ?_ | refine and_ofB ?_ ?_) <;> with_reducible first | assumption | (refine impB_ofR ?_; assumption)) | ((try simp only [Bool.and_eq_true] at vr); simp only [impB, vr, Bool.or_true, Bool.true_or, Bool.and_self, Bool.not_true, Bool.not_false, Bool.and_true]; done))
        refine ⟨⟨(i + 1, ver + 1), by simp only; omega⟩, by first | (simp only; omega) | omega, ?_⟩
        simp only [updL_nil, updL_cons, delF_top, delF_upd, Nat.reduceEqDiff, reduceIte]
        refine Le.frameS (by first | rfl | (simp only [go_sem]; try rfl)) ?_
        repeat' (first | exact leF_top _ | exact (fun _ => LeR.refl _) | (with_reducible refine leF_sl ?_ ?_) | (refine leF_upd ?_ ?_))
        all_goals (first | exact LeR.top _ | exact LeR.refl _ | (refine LeR.of_eq ?_; (try simp only [go_sem]); try rfl) | ((try simp only [go_sem]); try rfl))
      · have g3 : decide ((i : Int) < (L.length : Int)) = false := decide_eq_false (by omega)
        have e : L.take i = L := List.take_of_length_le hc
        repeat' (first
         | (with_reducible first | refine t_seq fun K => ?_ | refine t_block ?_ | refine t_scope ?_ | refine t_label ?_ | refine t_skip ?_ | refine t_exit ?_ | refine t_ret ?_ | refine t_k ?_ | refine t_gF ?_ | exact kp_nil | exact Kp.refl _ | exact kp_to | refine kp_cons ?_ | refine kp_arr ?_ | refine kp_app ?_ | refine t_p ?_ | refine t_br (fun hc => ?_) fun hc => ?_)
         | ((with_reducible first | refine t_kE (t_openE ?_) | refine t_kD (t_openD ?_) | refine t_kE ?_ | refine t_kD ?_ | refine t_gS ?_ | refine t_kL ?_ | refine t_kLF ?_ ?_ | refine t_region fun K => ?_ | refine t_cond fun A B => ?_ | refine t_draw (by kernel_rfl) fun K => ?_); (try (first | refine t_hideE fun KL => ?_ | refine t_hideD fun KL => ?_)); simp only [go_sem, geff, kp69, updL_cons, updL_nil, Int.toNat_natCast, g3, e])
         | ((with_reducible refine kp_skip ?_ ?_); rfl) | simp only [thenQ, blockQ, scopeQ, Nat.reduceEqDiff, reduceIte] | (with_reducible first | refine And.intro ?_ ?_ | intro vr))
        all_goals try (first | (with_reducible assumption) | (intros; (try simp only [Bool.and_eq_true, Bool.or_eq_true, Bool.or_eq_false_iff, Bool.not_eq_true', Bool.not_eq_false', decide_eq_true_eq, decide_eq_false_iff_not, beq_iff_eq, beq_eq_false_iff_ne, bne_iff_ne, bne_eq_false_iff_eq, ne_eq, inI64, List.length_append] at *) <;> omega) | (intros; (with_reducible first | refine impB_ofR ?_ | refine and_ofB ?_ ?_) <;> with_reducible first | assumption | (refine impB_ofR ?_; assumption)) | ((try simp only [Bool.and_eq_true] at vr); simp only [impB, vr, Bool.or_true, Bool.true_or, Bool.and_self, Bool.not_true, Bool.not_false, Bool.and_true]; done))
        all_goals ((first | refine end_retE ?_ | refine end_normE ?_); simp only [fin, go_sem])
        exact LeA.refl _
    · have g4 : (((L.flatten.length : Nat) : Int) = 0) = False := eq_false (by omega)
      repeat' (first
       | (with_reducible first | refine t_seq fun K => ?_ | refine t_block ?_ | refine t_scope ?_ | refine t_label ?_ | refine t_skip ?_ | refine t_exit ?_ | refine t_ret ?_ | refine t_k ?_ | refine t_gF ?_ | exact kp_nil | exact Kp.refl _ | exact kp_to | refine kp_cons ?_ | refine kp_arr ?_ | refine kp_app ?_ | refine t_p ?_ | refine t_br (fun hc => ?_) fun hc => ?_)
       | ((with_reducible first | refine t_kE (t_openE ?_) | refine t_kD (t_openD ?_) | refine t_kE ?_ | refine t_kD ?_ | refine t_gS ?_ | refine t_kL ?_ | refine t_kLF ?_ ?_ | refine t_region fun K => ?_ | refine t_cond fun A B => ?_ | refine t_draw (by kernel_rfl) fun K => ?_); (try (first | refine t_hideE fun KL => ?_ | refine t_hideD fun KL => ?_)); simp only [go_sem, geff, kp69, updL_cons, updL_nil, Int.toNat_natCast, g3, e, g4, true_imp_iff, ne_eq, not_false_eq_true, false_imp_iff])
       | ((with_reducible refine kp_skip ?_ ?_); rfl) | simp only [thenQ, blockQ, scopeQ, Nat.reduceEqDiff, reduceIte] | (with_reducible first | refine And.intro ?_ ?_ | intro vr))
      all_goals try (first | (with_reducible assumption) | (intros; (try simp only [Bool.and_eq_true, Bool.or_eq_true, Bool.or_eq_false_iff, Bool.not_eq_true', Bool.not_eq_false', decide_eq_true_eq, decide_eq_false_iff_not, beq_iff_eq, beq_eq_false_iff_ne, bne_iff_ne, bne_eq_false_iff_eq, ne_eq, inI64, List.length_append] at *) <;> omega) | (intros; (with_reducible first | refine impB_ofR ?_ | refine and_ofB ?_ ?_) <;> with_reducible first | assumption | (refine impB_ofR ?_; assumption)) | ((try simp only [Bool.and_eq_true] at vr); simp only [impB, vr, Bool.or_true, Bool.true_or, Bool.and_self, Bool.not_true, Bool.not_false, Bool.and_true]; done))
      refine t_loopF (ι := { p : Nat × Nat // p.1 ≤ L.length }) (fun i => [(27, .lit (.int .i64 i.1.1)), (6, .arr 0 i.1.2)]) (fun i => [.arr 3 1 (ints .i64 (L.take i.1.1).flatten) i.1.2 false]) (fun i => L.length - i.1.1) ⟨(0, 0), by simp⟩ ?_ ?_
      · simp only [updL_nil, updL_cons, delF_top, delF_upd, Nat.reduceEqDiff, reduceIte]
        refine Le.frameS (by first | rfl | (simp only [go_sem]; try rfl)) ?_
        repeat' (first | exact leF_top _ | exact (fun _ => LeR.refl _) | (with_reducible refine leF_sl ?_ ?_) | (refine leF_upd ?_ ?_))
        all_goals (first | exact LeR.top _ | exact LeR.refl _ | (refine LeR.of_eq ?_; (try simp only [go_sem]); try rfl) | ((try simp only [go_sem]); try rfl))
      rintro ⟨⟨i, ver⟩, hi⟩ K1
      simp only at hi
      rcases Nat.lt_or_ge i L.length with hc | hc
      · have g3 : decide ((i : Int) < (L.length : Int)) = true := decide_eq_true (by omega)
        have hf := flat_take hc
        have hle := flat_le L (i + 1)
        have hlen := congrArg List.length hf
        rw [List.length_append] at hlen
        repeat' (first
         | (with_reducible first | refine t_seq fun K => ?_ | refine t_block ?_ | refine t_scope ?_ | refine t_label ?_ | refine t_skip ?_ | refine t_exit ?_ | refine t_ret ?_ | refine t_k ?_ | refine t_gF ?_ | exact kp_nil | exact Kp.refl _ | exact kp_to | refine kp_cons ?_ | refine kp_arr ?_ | refine kp_app ?_ | refine t_p ?_ | refine t_br (fun hc => ?_) fun hc => ?_)
         | ((with_reducible first | refine t_kE (t_openE ?_) | refine t_kD (t_openD ?_) | refine t_kE ?_ | refine t_kD ?_ | refine t_gS ?_ | refine t_kL ?_ | refine t_kLF ?_ ?_ | refine t_region fun K => ?_ | refine t_cond fun A B => ?_ | refine t_draw (by kernel_rfl) fun K => ?_); (try (first | refine t_hideE fun KL => ?_ | refine t_hideD fun KL => ?_)); simp only [go_sem, geff, kp69, updL_cons, updL_nil, Int.toNat_natCast, g3, ints_append, ← hf])
         | ((with_reducible refine kp_skip ?_ ?_); rfl) | simp only [thenQ, blockQ, scopeQ, Nat.reduceEqDiff, reduceIte] | (with_reducible first | refine And.intro ?_ ?_ | intro vr))
        all_goals try (first | (with_reducible assumption) | (intros; (try simp only [Bool.and_eq_true, Bool.or_eq_true, Bool.or_eq_false_iff, Bool.not_eq_true', Bool.not_eq_false', decide_eq_true_eq, decide_eq_false_iff_not, beq_iff_eq, beq_eq_false_iff_ne, bne_iff_ne, bne_eq_false_iff_eq, ne_eq, inI64, ints_length] at *) <;> omega) | (intros; (with_reducible first | refine impB_ofR ?_ | refine and_ofB ?_ ?_) <;> with_reducible first | assumption | (refine impB_ofR ?_; assumption)) | ((try simp only [Bool.and_eq_true] at vr); simp only [impB, vr, Bool.or_true, Bool.true_or, Bool.and_self, Bool.not_true, Bool.not_false, Bool.and_true]; done))
        refine ⟨⟨(i + 1, ver + 1), by simp only; omega⟩, by first | (simp only; omega) | omega, ?_⟩
        simp only [updL_nil, updL_cons, delF_top, delF_upd, Nat.reduceEqDiff, reduceIte]
        refine Le.frameS (by first | rfl | (simp only [go_sem]; try rfl)) ?_
        repeat' (first | exact leF_top _ | exact (fun _ => LeR.refl _) | (with_reducible refine leF_sl ?_ ?_) | (refine leF_upd ?_ ?_))
        all_goals (first | exact LeR.top _ | exact LeR.refl _ | (refine LeR.of_eq ?_; (try simp only [go_sem]); try rfl) | ((try simp only [go_sem]); try rfl))
      · have g3 : decide ((i : Int) < (L.length : Int)) = false := decide_eq_false (by omega)
        have e : L.take i = L := List.take_of_length_le hc
        repeat' (first
         | (with_reducible first | refine t_seq fun K => ?_ | refine t_block ?_ | refine t_scope ?_ | refine t_label ?_ | refine t_skip ?_ | refine t_exit ?_ | refine t_ret ?_ | refine t_k ?_ | refine t_gF ?_ | exact kp_nil | exact Kp.refl _ | exact kp_to | refine kp_cons ?_ | refine kp_arr ?_ | refine kp_app ?_ | refine t_p ?_ | refine t_br (fun hc => ?_) fun hc => ?_)
         | ((with_reducible first | refine t_kE (t_openE ?_) | refine t_kD (t_openD ?_) | refine t_kE ?_ | refine t_kD ?_ | refine t_gS ?_ | refine t_kL ?_ | refine t_kLF ?_ ?_ | refine t_region fun K => ?_ | refine t_cond fun A B => ?_ | refine t_draw (by kernel_rfl) fun K => ?_); (try (first | refine t_hideE fun KL => ?_ | refine t_hideD fun KL => ?_)); simp only [go_sem, geff, kp69, updL_cons, updL_nil, Int.toNat_natCast, g3, e])
         | ((with_reducible refine kp_skip ?_ ?_); rfl) | simp only [thenQ, blockQ, scopeQ, Nat.reduceEqDiff, reduceIte] | (with_reducible first | refine And.intro ?_ ?_ | intro vr))
        all_goals try (first | (with_reducible assumption) | (intros; (try simp only [Bool.and_eq_true, Bool.or_eq_true, Bool.or_eq_false_iff, Bool.not_eq_true', Bool.not_eq_false', decide_eq_true_eq, decide_eq_false_iff_not, beq_iff_eq, beq_eq_false_iff_ne, bne_iff_ne, bne_eq_false_iff_eq, ne_eq, inI64, List.length_append] at *) <;> omega) | (intros; (with_reducible first | refine impB_ofR ?_ | refine and_ofB ?_ ?_) <;> with_reducible first | assumption | (refine impB_ofR ?_; assumption)) | ((try simp only [Bool.and_eq_true] at vr); simp only [impB, vr, Bool.or_true, Bool.true_or, Bool.and_self, Bool.not_true, Bool.not_false, Bool.and_true]; done))
        all_goals ((first | refine end_retE ?_ | refine end_normE ?_); simp only [fin, go_sem])
        exact LeA.refl _
end Go.Proofs.Ytcjjakhmpffopaa

/- A range over a function whose rounds all go on: the iterator says what it hands over (A), and in the end what has come (S), both of the world. -/
namespace Go.Fw
open Go Go.RowKit
variable {F : Fence} {n : Nat} {P : Program}
/-- The iterator's contract. -/
def SeqW {α : Type} (F : Fence) (n : Nat) (P : Program) (g : Nat) (lb : Array Value) (encs : α → Array Value) (Kp : World → World → Prop) (A : List α → α → World → World → Prop) (S : List α → Prop) (w : World) : Prop :=
  ∀ (l : Nat) (J : List α → World → Prop) (W : World), Below w.heap.size w W → AbidesFrom W.heap.size J →
    (∀ pre x W0 W1, J pre W0 → W0.grownBy W1 none → A pre x W0 W1 → YieldAt F (n - 1) P l (encs x) W1 fun e W' => e = .returned (.bool true) ∧ J (pre ++ [x]) W' ∧ Kp W1 W') →
    J [] W → CallsIn F n P g (#[.func (.yield l) #[] #[]] ++ lb) W fun e W' => (∃ v, e = .returned v) ∧ ∃ xs, S xs ∧ J xs W'

theorem wpIn_rangeW {α : Type} {g : Operand} {ps : Array Tmp} {assign body : Code} {Q : Exit → Act → World → Prop} {a : Act} {w : World}
    (hro : F.round = none) (h1 : 1 ≤ n) {gf : Nat} {lb : Array Value} (hg : a.eval g = .func (.func gf) #[] lb) (hFg : F.fn gf) (eg : ∀ args w, (callFunc gf args).run P w = .ok (.enter gf args) w)
    {encs : α → Array Value} {Kp : World → World → Prop} {A : List α → α → World → World → Prop} {S : List α → Prop} (hseq : SeqW F (n - 1) P gf lb encs Kp A S w)
    (hKp : ∀ (W W' : World) (o o' : Obj), w.heap.size ≤ W.heap.size → W.heap[w.heap.size + 1]? = some o → o.isCells = false → o.isWalk = false →
      KeepsOthers (W.putObj (w.heap.size + 1) o') W' → ∀ o2 o3, W'.heap[w.heap.size + 1]? = some o2 → o2.isCells = false → o2.isWalk = false → Kp (W.putObj (w.heap.size + 1) o') W' → Kp W (W'.putObj (w.heap.size + 1) o3))
    (hps : ∀ x, (encs x).size = ps.size)
    (I : List α → World → Prop) (hI : OwnFrom w.heap.size I) (hA : ∀ pre x W0, OwnFrom w.heap.size (fun (_ : Unit) => A pre x W0)) (h0 : I [] w) (a₁ : α → Act)
    (hassign : ∀ (l : Nat) (x : α) (W : World) (K : Act → World → Prop), K (a₁ x) W →
      assign.wpIn (F.inRound l) (n - 1 - 1) P (Exit.then K (fun _ _ _ => False)) { tmps := (ps.zip (encs x)).foldl (fun t (p, v) => t.setIfInBounds p v) a.tmps, defers := [] } W)
    (hbody : ∀ (l : Nat) (pre : List α) (x : α) (W0 W : World), w.heap.size ≤ l → I pre W0 → I pre W → W0.heap.size ≤ W.heap.size → (∀ p v, W0.cell? p = some v → W.cell? p = some v) → A pre x W0 W →
      body.wpIn (F.inRound l) (n - 1 - 1) P (fun e _ W' => match e with | .normal => KeepsOthers W W' ∧ Kp W W' ∧ I (pre ++ [x]) W' | _ => False) (a₁ x) W)
    (hdone : ∀ (D : Nat) (xs : List α) (W : World), w.heap.size ≤ D → S xs → I xs W → W.heap[D]? = some (.deferred (some [])) → Q .normal { a with defers := { target := .collected D, args := #[] } :: a.defers } W) :
    (Code.rangeFunc g ps assign body).wpIn F n P Q a w := by
  refine wpIn_rangeFunc fun fn hfn => ?_
  rw [hro]
  let rec0 : LoopState → Loop := fun st => { state := st, pending := none, fn, tmps := a.tmps, params := ps, assign, body, defers := w.heap.size }
  let W1 := (w.alloc (.deferred (some []))).alloc (.loop (rec0 .ready))
  have hL1 : W1.heap[w.heap.size + 1]? = some (.loop (rec0 .ready)) := by
    have := World.alloc_heap_new (w.alloc (.deferred (some []))) (.loop (rec0 .ready))
    rwa [World.size_alloc] at this
  have hK1 : W1.heap[w.heap.size]? = some (.deferred (some [])) := (Below.heap_alloc _ _ _ (by simp)).trans (World.alloc_heap_new w _)
  have hb1 : Below w.heap.size w W1 := ((Below.refl _ w).alloc (Nat.le_refl _) _).alloc (by simp) _
  let B : List α → World → Prop := fun pre W => I pre W ∧ W.heap[w.heap.size + 1]? = some (.loop (rec0 .ready)) ∧ W.heap[w.heap.size]? = some (.deferred (some []))
  refine ⟨w.heap.size + 1, [{ target := .collected w.heap.size, args := #[] }], W1, { target := .fn (.func gf) lb, args := #[.func (.yield (w.heap.size + 1)) #[] #[]] }, W1, gf,
    #[.func (.yield (w.heap.size + 1)) #[] #[]] ++ lb, W1, run_enterLoop_outer _ _ _ _ _, ?_, ?_, ?_, fun _ => h1, ?_⟩
  · simp only [resolve, hg]; simp [go_sem]
  · intro f' hf'; simp [Target.leads] at hf'; subst hf'; exact hFg
  · simp [invoke, go_sem, eg]
  have hJ : AbidesFrom W1.heap.size B := by
    rintro s A' B' row ⟨q1, q2, q3⟩ hgr hr
    have hnw : ∀ r, row = some r → ∃ o : Obj, A'.heap[r]? = some o ∧ o.isCells = false := fun r e => by
      obtain ⟨_, o, ho, hw⟩ := hr r e; exact ⟨o, ho, Obj.not_cells_of_walk hw⟩
    exact ⟨hI s A' B' row q1 hgr (fun r e => ⟨Nat.le_trans hb1.size (hr r e).1, (hnw r e)⟩), (grownBy_keeps hgr (fun r e => (hr r e).2) q2 rfl).trans q2, (grownBy_keeps hgr (fun r e => (hr r e).2) q3 rfl).trans q3⟩
  refine (hseq (w.heap.size + 1) B W1 hb1 hJ ?_ ⟨hI.alloc _ (hI.alloc _ h0), hL1, hK1⟩).mono ?_
  · rintro pre x W0 W ⟨hi0, hl0, hk0⟩ hgr ha
    obtain ⟨hi, hl, hk⟩ := hJ pre W0 W none ⟨hi0, hl0, hk0⟩ hgr (fun r e => by cases e)
    have hlt : w.heap.size + 1 < W.heap.size := (Array.getElem?_eq_some_iff.1 hl).1
    refine ⟨fn, _, assign, body, run_yield (P := P) (args := encs x) hl (hps x), roundIn_of_wpIn hfn (hassign _ x W _ ⟨_, run_beginRound hl rfl, ?_⟩)⟩
    have hl2 : (W.putObj (w.heap.size + 1) (.loop (rec0 .busy))).heap[w.heap.size + 1]? = some (.loop (rec0 .busy)) := World.putObj_heap_same hlt
    have hk2 : (W.putObj (w.heap.size + 1) (.loop (rec0 .busy))).heap[w.heap.size]? = some (.deferred (some [])) := (World.putObj_heap_other (by omega)).trans hk
    refine wpIn_mono (hbody _ pre x W0 _ (by omega) hi0 (hI.putObj _ hi (by omega) hl rfl) (by simpa using hgr.size) (fun p v hv => cell_kept (cell_kept hv hgr (fun r e => by cases e)) (grownBy_putObj' W _ _) (fun r e => by cases e; exact ⟨_, hl, rfl⟩)) ((hA pre x W0).putObj (s := ()) _ ha (by omega) hl rfl)) ?_
    intro e a3 W3 hp
    cases e with
    | normal =>
      obtain ⟨hk3, hkp3, hi3⟩ := hp
      have hl3 := hk3.same _ _ hl2 rfl
      refine ⟨_, _, run_endRound (P := P) none hl3, rfl, ⟨hI.putObj _ hi3 (by omega) hl3 rfl, World.putObj_heap_same (Array.getElem?_eq_some_iff.1 hl3).1, (World.putObj_heap_other (by omega)).trans (hk3.same _ _ hk2 rfl)⟩, ?_⟩
      exact hKp W W3 _ _ (by omega) hl rfl rfl hk3 _ _ hl3 rfl rfl hkp3
    | _ => exact hp.elim
  · rintro e W2 ⟨⟨v, rfl⟩, xs, hS', hi, hl, hk⟩
    exact ⟨none, _, run_endLoop (P := P) hl (by simp [rec0]), hdone _ xs _ (Nat.le_refl _) hS' (hI.putObj _ hi (by omega) hl rfl) ((World.putObj_heap_other (by omega)).trans hk)⟩
end Go.Fw

/- cells.all's closure hands over all indices; cells.Indices collects them. -/
namespace Go.Proofs.Ytcjjakhmpffopaa
open Go Go.Fw Go.RowKit Go.Shelf
attribute [local go_sem] Oper.semAt_some

/-- The cells below n0 that C names, and the cells of the world from n on. -/
def CW (n0 n : Nat) (C : Nat → Nat → Option Value) (W : World) : Nat → Nat → Option Value := fun k o => if k < n0 then C k o else if k < n then none else W.cell? ⟨k, o, none⟩
def KpX (n0 B : Nat) (W W' : World) : Prop := Below n0 W W' ∧ ∀ v, W.cell? ⟨B, 0, none⟩ = some v → W'.cell? ⟨B, 0, none⟩ = some v
theorem rc_tup2 {C : Nat → Nat → Option Value} {x y : AV} {v : Value} (h : RC C (.tup [x, y]) v) : ∃ a b, v = .tuple #[a, b] ∧ RC C x a ∧ RC C y b := by
  cases h with
  | tup _ vs hl h =>
    match vs, hl with
    | [a, b], _ => exact ⟨a, b, rfl, h 0 (by simp), h 1 (by simp)⟩
theorem rc_lit {C : Nat → Nat → Option Value} {u v : Value} (h : RC C (.lit u) v) : v = u := by cases h; rfl
theorem more_grown {w w' : World} (h : More w w') : w.grownBy w' none := ⟨h.os, h.tape, h.output, h.size, fun k hk _ => h.block k hk⟩
theorem RL_two {C : Nat → Nat → Option Value} {x y : AV} {a b : Value} (h : RC C x a) (h' : RC C y b) : RL C [x, y] [a, b] := ⟨rfl, fun i hi => match i, hi with
  | 0, _ => h
  | 1, _ => h'⟩
theorem RL_one {C : Nat → Nat → Option Value} {x : AV} {a : Value} (h : RC C x a) : RL C [x] [a] := ⟨rfl, fun i hi => match i, hi with
  | 0, _ => h⟩

theorem rc_CW {n0 : Nat} {C C2 : Nat → Nat → Option Value} {w wr w2 : World} {x : AV} {v : Value} (h : RC C2 x v) (hC : ∀ k o u, C k o = some u → k < n0 ∧ w.cell? ⟨k, o, none⟩ = some u)
    (hold : ∀ k, k < wr.heap.size → ∀ j, C2 k j = C k j) (hin : inW C2 w2) (hn : n0 ≤ wr.heap.size) : RC (CW n0 wr.heap.size C w2) x v := by
  refine h.mono fun k o u hu => ?_
  unfold CW
  split
  · rename_i hk
    rw [← hold k (by omega) o]; exact hu
  · split
    · rename_i hk hk'
      rw [hold k hk' o] at hu
      exact absurd (hC k o u hu).1 hk
    · exact hin k o u hu
theorem rc_slice {C : Nat → Nat → Option Value} {fl : Bool} {sz : Nat} {xs : List AV} {v : Value} (h : RC C (.sl fl sz xs) v) : ∃ a len cap, v = .slice a len cap := by
  cases h with
  | nil => exact ⟨_, _, _, rfl⟩
  | sl => exact ⟨_, _, _, rfl⟩
/-- What the closure hands over. -/
def AX (n0 : Nat) (C : Nat → Nat → Option Value) (fr : List Int) (m : Nat) (pre : List Value) (x : Value) (W0 W1 : World) : Prop :=
  pre.length < m ∧ RC (CW n0 W0.heap.size C W1) (.sl false 1 (ints .i64 (idxS fr pre.length).1)) x
set_option maxRecDepth 100000 in
set_option maxHeartbeats 2000000 in
theorem all1_seq {n n0 B m : Nat} {C : Nat → Nat → Option Value} {fr : List Int} {fv : Value} {w : World} (h1 : 1 ≤ n) (hfr : fr.length ≤ 1000000) (hS : sizeS fr = ((m : Int), 0)) (hm : m ≤ 1000000) (hB : B < w.heap.size) (hn0 : n0 ≤ w.heap.size)
    (hb : w.cell? ⟨B, 0, none⟩ = some fv) (hf : RC C (.sl false 1 (ints .i64 fr)) fv) (hC : ∀ k o u, C k o = some u → k < n0 ∧ w.cell? ⟨k, o, none⟩ = some u) :
    SeqW Fence.wide n Try.prog 94 #[.pointer (some ⟨B, 0, none⟩)] (fun x : Value => #[x]) (KpX n0 B) (AX n0 C fr m) (fun xs => xs.length = m) w := by
  intro l J W hW hJ hY h0
  have hbW : W.cell? ⟨B, 0, none⟩ = some fv := (hW.cell (p := ⟨B, 0, none⟩) hB).trans hb
  have hCW : ∀ W', Below n0 W W' → inW C W' := fun W' hb' k o u hu => by
    obtain ⟨q1, q2⟩ := hC k o u hu
    exact (hb'.cell (p := ⟨k, o, none⟩) q1).trans ((hW.cell (p := ⟨k, o, none⟩) (show k < w.heap.size by omega)).trans q2)
  refine callsIn_of_wp Try.func94 rfl trivial ?_ rfl
  simp only [Try.ntmps94, List.size_toArray, List.length_cons, List.length_nil, Nat.reduceAdd, Nat.reduceSub, Array.replicate_succ, Array.replicate_zero, List.push_toArray, List.append_toArray, List.nil_append, List.cons_append]
  have c65 := (callsIn_wide (n := n - 1)).2 (size_pc hfr C W [fv] (RL_one hf) (hCW W (Below.refl _ _)))
  rw [hS] at c65
  gi_wp2_with (refine ⟨trivial, ?_⟩; gi_at_call 65; refine c65.mono ?_; rintro e w1 ⟨v, C', rfl, hle, hrc, hin, hmore, hold⟩; obtain ⟨a, b, rfl, ha, hb2⟩ := rc_tup2 hrc; obtain rfl := rc_lit ha; obtain rfl := rc_lit hb2)
  have hJ1 : J [] w1 := hJ [] W w1 none h0 (more_grown hmore) (fun r e => by cases e)
  have hb1 : Below n0 W w1 := hmore.below.mono (Nat.le_trans hn0 hW.size)
  have hbox : w1.cell? ⟨B, 0, none⟩ = some fv := hmore.cell hbW
  gi_loopw [14] (fun i wr => ∃ xs : List Value, i = .int .i64 xs.length ∧ xs.length ≤ m ∧ J xs wr ∧ wr.cell? ⟨B, 0, none⟩ = some fv ∧ Below n0 W wr) (fun i _ => m - (intOf i).toNat)
  case atStart => exact ⟨[], rfl, Nat.zero_le _, hJ1, hbox, hb1⟩
  case round =>
    obtain ⟨xs, rfl, hk, hJs, hbx, hbl⟩ := hrel
    have hnr : n0 ≤ wr.heap.size := Nat.le_trans (Nat.le_trans hn0 hW.size) hbl.size
    by_cases hlt : xs.length < m
    · have c95 := (callsIn_wide (n := n - 1)).2 (idx_pc (o := xs.length) hfr C wr [fv, .int .i64 xs.length] (RL_two hf (.lit _)) (hCW wr hbl))
      gi_wp2_with (refine ⟨trivial, ?_⟩; gi_at_call 95; refine c95.mono ?_; rintro e w2 ⟨v, C2, rfl, hle2, hrc2, hin2, hmore2, hold2⟩; obtain ⟨x, e2, rfl, hx, he2⟩ := rc_tup2 hrc2; obtain rfl := rc_lit he2; obtain ⟨fn, tmps, assign, body, hy, hR⟩ := hY xs x wr w2 hJs (more_grown hmore2) ⟨hlt, rc_CW hx hC hold2 hin2 hnr⟩)
      refine hR.mono ?_
      rintro e W3 ⟨rfl, hJ3, hk3⟩
      gi_wp2
      go_roundw
      case rel => exact ⟨xs ++ [x], by simp, by simp; omega, hJ3, hk3.2 _ (hmore2.cell hbx), (hbl.trans (hmore2.below.mono hnr)).trans hk3.1⟩
      case measure => simp [intOf]; omega
    · obtain rfl : xs.length = m := by omega
      gi_wp2
      go_end0
      exact ⟨⟨_, rfl⟩, xs, rfl, hJs⟩
set_option maxHeartbeats 1000000 in
theorem all_in (n : Nat) (a : Option Addr) (len cap : Nat) (w : World) :
    CallsIn Fence.wide n Try.prog 70 #[.slice a len cap] w fun e w' => e = .returned (.func (.func 94) #[] #[.pointer (some ⟨w.heap.size, 0, none⟩)]) ∧ w' = w.alloc (.cells #[.slice a len cap] 23) := by
  refine callsIn_of_wp Try.func70 rfl trivial ?_ rfl
  simp only [Try.ntmps70, List.size_toArray, List.length_cons, List.length_nil, Nat.reduceAdd, Nat.reduceSub, Array.replicate_succ, Array.replicate_zero, List.push_toArray, List.append_toArray, List.nil_append, List.cons_append]
  gi_wp2
  go_ret
  exact ⟨rfl, rfl⟩
/-- Between two rounds. -/
def IX (C : Nat → Nat → Option Value) (fr : List Int) (w1 : World) (pre : List Value) (W : World) : Prop :=
  Below w1.heap.size w1 W ∧ ∃ v C', Boxed W w1.heap.size 40 v ∧ W.ownsRow w1.heap.size 23 1 v pre.length pre ∧ (v = .slice none 0 0 ↔ pre = []) ∧ v.ownBlock ≠ some (w1.heap.size + 1) ∧ inW C' W ∧ (∀ k, k < w1.heap.size → ∀ j, C' k j = C k j) ∧ (∀ j, C' w1.heap.size j = none) ∧
    (∀ g, v.ownBlock = some g → ∀ j, C' g j = none) ∧ ∀ i, i < pre.length → RC C' (.sl false 1 (ints .i64 (idxS fr i).1)) (pre.getD i undef)
theorem ix_own {C : Nat → Nat → Option Value} {fr : List Int} {w1 : World} {B : Nat} (hB : w1.heap.size ≤ B) : OwnFrom B (IX C fr w1) := by
  rintro s W W' row ⟨hb, v, C', h1, h2, h3, h3', h4, h5⟩ hg hr
  refine ⟨hb.grown hg (by have := h1.lt; omega) (fun k e => Nat.le_trans hB (hr k e).1), v, C', h1.kept hg (fun e' => ?_), h2.kept hg ?_, h3, h3', fun k o u hu => cell_kept (h4 k o u hu) hg (fun r e => (hr r e).2), h5⟩
  · obtain ⟨_, o, ho, hc⟩ := hr _ e'.symm
    rw [show W.heap[w1.heap.size]? = _ from h1] at ho; cases ho; cases hc
  · rcases h2.2 with ⟨rfl, _⟩ | ⟨g, cap, cur, rfl, _, hgb, _⟩
    · exact .inl rfl
    · refine .inr fun e' => ?_
      obtain ⟨_, o, ho, hc⟩ := hr g (by simpa [Value.ownBlock] using e'.symm)
      rw [hgb] at ho; cases ho; cases hc
theorem ax_own {n0 B m : Nat} {C : Nat → Nat → Option Value} {fr : List Int} (pre : List Value) (x : Value) (W0 : World) : OwnFrom B (fun (_ : Unit) => AX n0 C fr m pre x W0) := by
  rintro s W W' row ⟨h1, h2⟩ hg hr
  refine ⟨h1, h2.mono fun k o u hu => ?_⟩
  unfold CW at hu ⊢
  split
  · rename_i hk
    rwa [if_pos hk] at hu
  · rename_i hk
    rw [if_neg hk] at hu
    split
    · rename_i hk2
      rwa [if_pos hk2] at hu
    · rename_i hk2
      rw [if_neg hk2] at hu
      exact cell_kept hu hg (fun r e => (hr r e).2)
theorem info23 : (Try.prog.info? 23).map (fun i => (i.zero, i.size, i.bytes)) = some (some (.slice none 0 0), 1, 24) := by kernel_rfl
theorem flat_ils : ∀ (L : List (List Int)), flat (ils L) = ils L
  | [] => rfl
  | l :: L => by
    show AV.cells (ilA l) ++ flat (ils L) = ilA l :: ils L
    rw [flat_ils L]; rfl
theorem getD_left {α : Type} {l : List α} {x d : α} {i : Nat} (h : i < l.length) : (l ++ [x]).getD i d = l.getD i d := by
  rw [List.getD_eq_getElem?_getD, List.getD_eq_getElem?_getD, List.getElem?_append_left h]
theorem getD_end {α : Type} {l : List α} {x d : α} : (l ++ [x]).getD l.length d = x := by simp
set_option maxRecDepth 100000 in
set_option maxHeartbeats 2000000 in
theorem indices_pc {fr : List Int} (hfr : fr.length ≤ 1000000) : PC Try.prog 34 [.sl false 1 (ints .i64 fr)] (inV (indicesS fr)) := by
  intro C w vs hr hin
  obtain ⟨hl, hr⟩ := hr
  match vs, hl with
  | [fv], _ =>
  have hf : RC C (.sl false 1 (ints .i64 fr)) fv := hr 0 (by simp)
  have ⟨a, len, cap, hfv⟩ : ∃ a len cap, fv = .slice a len cap := by
    exact rc_slice hf
  subst hfv
  obtain ⟨i0, hi, hz0, hz1, hz2⟩ := info_parts info23
  refine (callsIn_wide (n := 4)).1 ?_
  unfold indicesS
  generalize hS : sizeS fr = s
  obtain ⟨m, er⟩ := s
  simp only
  have c65 := (callsIn_wide (n := 4 - 1)).2 (size_pc hfr C w [.slice a len cap] (RL_one hf) hin)
  rw [hS] at c65
  by_cases e0 : er = 0
  · subst e0
    obtain ⟨_, hdk, hpr, hm⟩ := sizeS_ok hS
    obtain ⟨m, rfl⟩ : ∃ k : Nat, m = k := ⟨m.toNat, by have := prI_nonneg hdk; omega⟩
    clear hpr hdk
    rw [if_neg (by simp), Int.toNat_natCast]
    refine callsIn_of_wp_marks Try.func34 rfl trivial ?_ rfl
    simp only [Try.ntmps34, List.size_toArray, List.length_cons, List.length_nil, Nat.reduceAdd, Nat.reduceSub, Array.replicate_succ, Array.replicate_zero, List.push_toArray, List.append_toArray, List.nil_append, List.cons_append]
    gi_wp2_with (first | (refine ⟨trivial, ?_⟩; gi_at_call 65; refine c65.mono ?_; clear c65; rintro e w1 ⟨v, C', rfl, _, hrc, _, hmore, _⟩; obtain ⟨a, b, rfl, ha, hb2⟩ := rc_tup2 hrc; obtain rfl := rc_lit ha; obtain rfl := rc_lit hb2; clear hrc ha hb2) | (refine ⟨trivial, ?_⟩; gi_at_call 70; refine (all_in _ _ _ _ _).mono ?_; rintro e w2 ⟨rfl, rfl⟩))
    have hs := hmore.size
    have hCd : ∀ k o u, C k o = some u → k < w1.heap.size ∧ w1.cell? ⟨k, o, none⟩ = some u := fun k o u hu => by
      have hc := hmore.cell (hin k o u hu)
      exact ⟨World.block_lt_of_cell? w1 _ hc, hc⟩
    have bO := Boxed.new w1 40 (.slice none 0 0)
    have bN := Boxed.new (w1.alloc (.cells #[.slice none 0 0] 40)) 23 (.slice a len cap)
    rw [World.size_alloc] at bN
    have hB0 : Below w1.heap.size w1 ((w1.alloc (.cells #[.slice none 0 0] 40)).alloc (.cells #[.slice a len cap] 23)) := ((Below.refl _ w1).alloc (Nat.le_refl _) _).alloc (by simp) _
    refine wpIn_rangeW (n := 4) rfl (by omega) (gf := 94) (lb := #[.pointer (some ⟨w1.heap.size + 1, 0, none⟩)]) rfl trivial (enters_of Try.func94 (by kernel_rfl) rfl)
      (all1_seq (by omega) hfr hS (by omega) (B := w1.heap.size + 1) (n0 := w1.heap.size) (by simp) (by simp; omega) bN.cell hf (fun k o u hu => ⟨(hCd k o u hu).1, (hB0.cell (p := ⟨k, o, none⟩) (hCd k o u hu).1).trans (hCd k o u hu).2⟩))
      ?hkp (fun _ => rfl) (IX C fr w1) (ix_own (by simp; omega)) (fun pre x W0 => ax_own pre x W0) ?h0
      (fun x => { tmps := #[.slice a len cap, undef, .slice none 0 0, .int .i64 0, .int .i64 m, .int .i64 0, .pointer (some ⟨w1.heap.size, 0, none⟩), x, .tuple #[.int .i64 m, .int .i64 0], .slice a len cap, .tuple #[.int .i64 m, .int .i64 0], .int .i64 m, .int .i64 0, .int .i64 0, .bool false, undef, .slice a len cap, .func (.func 94) #[] #[.pointer (some ⟨w1.heap.size + 1, 0, none⟩)], x, undef, undef, undef, undef, undef], defers := [] }) ?assign ?body ?done
    case hkp =>
      intro W W' o o' hs1 hl hc hw _ o2 o3 hl2 hc2 hw2 hk
      have q1 := belowK_b (n₀ := w1.heap.size) (w := (w1.alloc (.cells #[.slice none 0 0] 40)).alloc (.cells #[.slice a len cap] 23)) (by simp; omega) W _ o o' (Nat.le_succ _) hl hc hw
      have q2 := belowK_b (n₀ := w1.heap.size) (w := (w1.alloc (.cells #[.slice none 0 0] 40)).alloc (.cells #[.slice a len cap] 23)) (by simp; omega) W' _ o2 o3 (Nat.le_succ _) hl2 hc2 hw2
      refine ⟨(q1.trans hk.1).trans q2, fun v hv => ?_⟩
      exact cell_kept (hk.2 v (cell_kept hv (grownBy_putObj' W _ o') (fun r e => by cases e; exact ⟨_, hl, hc⟩))) (grownBy_putObj' W' _ o3) (fun r e => by cases e; exact ⟨_, hl2, hc2⟩)
    case h0 =>
      refine ⟨hB0, .slice none 0 0, C, bO.alloc _, World.ownsRow_nil _ _ _ _, by simp, by simp [Value.ownBlock], fun k o u hu => (hB0.cell (p := ⟨k, o, none⟩) (hCd k o u hu).1).trans (hCd k o u hu).2, fun _ _ _ => rfl, fun j => ?_, by simp [Value.ownBlock], by simp⟩
      cases h : C w1.heap.size j with
      | none => rfl
      | some u => exact absurd (hCd _ _ u h).1 (by omega)
    case assign =>
      intro l x W K hK
      gi_wp2
      exact hK
    case body =>
      rintro l pre x W0 W hl ⟨hb0, v0, C0, g1, g2, g3, g3', g4, g5, g6, g7, g8⟩ ⟨hb, v, C1, h1, h2, h3, _⟩ hsz hcell ⟨hlt, hx⟩
      obtain ⟨ax, nx, cx, rfl⟩ := rc_slice hx
      have ev : v0 = v := by
        have q1 := hcell _ _ g1.cell
        rw [h1.cell] at q1
        exact (Option.some.inj q1).symm
      subst ev
      have hc := h1.cell
      have hwb := hb.size
      gi_wp2_with (gi_at_builtin; refine wpListIn_append_own_at _ rfl _ _ 40 rfl w1.heap.size 23 i0 (.slice none 0 0) 1 24 u40 hi hz0 hz1 hz2 rfl (by decide) _ _ _ rfl (h2.alloc _) ⟨W.heap.size, 0, none⟩ 1 1 [.slice ax nx cx] rfl rfl (cell_one_new _ _ _) (by simp [Value.oneCell']) (by unfold maxLen; omega) (by omega) (by simp; omega) ?_; intro v' w3 hown' hgrow _ hob; obtain ⟨g', cap', rfl⟩ := ownsRow_succ hown'; obtain ⟨hv1, hv2, hr2, hk2, hb2⟩ := h1.appended (by decide) h2 hb.size (Nat.le_refl _) hown' hgrow; have hc1 := hv1.cell; have hf1 := hv1.frozen)
      have hgb : ∀ g, v0.ownBlock = some g → g < W0.heap.size := fun g e => by
        rcases g2.2 with ⟨rfl, _⟩ | ⟨g', cap, cur, rfl, _, hgb, _⟩
        · cases e
        · obtain rfl : g' = g := by simpa [Value.ownBlock] using e
          exact (Array.getElem?_eq_some_iff.1 hgb).1
      have hB0l := g1.lt
      -- a cell that is neither the variable's nor the row's own lies as it lay
      have hst : ∀ k o u, k ≠ w1.heap.size → v0.ownBlock ≠ some k → W.cell? ⟨k, o, none⟩ = some u → (w3.setCell ⟨w1.heap.size, 0, none⟩ (.slice (some ⟨g', 0, none⟩) (pre.length + 1) cap')).cell? ⟨k, o, none⟩ = some u := fun k o u e1 e2 hu => by
        have hk := World.block_lt_of_cell? W _ hu
        have a1 : (W.alloc (.cells #[.slice ax nx cx] 23)).cell? ⟨k, o, none⟩ = some u := (World.cell?_of_block (Below.heap_alloc W _ k hk)).trans hu
        have a2 : w3.cell? ⟨k, o, none⟩ = some u := (World.cell?_of_block (hgrow.block k (by simp at hk ⊢; omega) (fun e => e2 e.symm))).trans a1
        exact (World.cell?_of_block (Below.heap_setCell _ _ _ k e1)).trans a2
      have hkp : KpX w1.heap.size (w1.heap.size + 1) W (w3.setCell ⟨w1.heap.size, 0, none⟩ (.slice (some ⟨g', 0, none⟩) (pre.length + 1) cap')) := by
        exact ⟨hb2, fun u hu => hst _ _ u (by omega) g3' hu⟩
      refine ⟨hkp, hb.trans hb2, _, fun k o => if k < W0.heap.size then C0 k o else W.cell? ⟨k, o, none⟩, hv2, by simpa using hr2, by simp, ?_, ?_, ?_, ?_, ?_, ?_⟩
      · rcases hob with e' | e'
        · rw [e']; exact g3'
        · rw [e']; simp; omega
      · intro k o u hu
        simp only at hu
        split at hu
        · refine hst k o u (fun e => ?_) (fun e => ?_) (hcell _ _ (g4 k o u hu))
          · rw [e, g6] at hu; cases hu
          · rw [g7 k e] at hu; cases hu
        · rename_i hk
          refine hst k o u (by omega) (fun e => ?_) hu
          exact hk (hgb k e)
      · intro k hk j
        simp only
        rw [if_pos (by omega)]; exact g5 k hk j
      · intro j
        simp only
        rw [if_pos hB0l]; exact g6 j
      · intro g e j
        simp only
        rcases hob with e' | e'
        · rw [e'] at e
          rw [if_pos (hgb g e)]; exact g7 g e j
        · rw [e'] at e
          obtain rfl := Option.some.inj e
          rw [if_neg (by simp; omega)]
          cases h : W.cell? ⟨(W.alloc (.cells #[.slice ax nx cx] 23)).heap.size, j, none⟩ with
          | none => rfl
          | some u => have := World.block_lt_of_cell? W _ h; simp at this; omega
      · intro i hi
        rw [List.length_append] at hi
        rcases Nat.lt_or_ge i pre.length with hc2 | hc2
        · rw [getD_left hc2]
          refine (g8 i hc2).mono fun k o u hu => ?_
          show (if k < W0.heap.size then C0 k o else W.cell? ⟨k, o, none⟩) = some u
          rw [if_pos (World.block_lt_of_cell? W0 _ (g4 k o u hu))]; exact hu
        · obtain rfl : i = pre.length := by simp at hi; omega
          rw [getD_end]
          refine hx.mono fun k o u hu => ?_
          unfold CW at hu
          show (if k < W0.heap.size then C0 k o else W.cell? ⟨k, o, none⟩) = some u
          split at hu
          · rw [if_pos (by omega), g5 k (by assumption) o]; exact hu
          · split at hu
            · cases hu
            · rename_i hk
              rw [if_neg hk]; exact hu
    case done =>
      rintro D ys W hD hy ⟨hb, v, C', h1, h2, h3, h3', h4, h5, h6, h7, h8⟩ hK
      have hc := h1.cell
      gi_wp2
      refine ⟨by simp, .inl ⟨_, _, rfl, run_takeDeferred hK, ?_⟩⟩
      have hck : ∀ p u, W.cell? p = some u → (W.putObj D (.deferred none)).cell? p = some u := fun p u hu => cell_kept hu (grownBy_putObj' W D _) (fun r e => by cases e; exact ⟨_, hK, rfl⟩)
      have hbD : Below w1.heap.size w1 (W.putObj D (.deferred none)) := hb.trans (belowK_b (w := w1) (Nat.le_refl _) W D _ _ (by simp at hD; omega) hK rfl rfl)
      refine ⟨_, results_tmp2 rfl _ _ _, .tuple #[v, .int .i64 0], fun k o => if v.ownBlock = some k then W.cell? ⟨k, o, none⟩ else C' k o, rfl, ?_, ?_, ?_, ?_, ?_⟩
      · intro k o u hu
        have hk := (hCd k o u hu).1
        have e := h5 k hk o
        show (if v.ownBlock = some k then W.cell? ⟨k, o, none⟩ else C' k o) = some u
        rw [if_neg (fun e' => by rw [h7 k e' o, hu] at e; cases e), e]; exact hu
      · have hCC : CLe C' (fun k o => if v.ownBlock = some k then W.cell? ⟨k, o, none⟩ else C' k o) := fun k o u hu => by
          show (if v.ownBlock = some k then W.cell? ⟨k, o, none⟩ else C' k o) = some u
          rw [if_neg (fun e' => by rw [h7 k e' o] at hu; cases hu)]; exact hu
        unfold inV
        refine RC.tup _ [v, .int .i64 0] rfl fun i hi => ?_
        match i, hi with
        | 1, _ => exact .lit _
        | 0, _ =>
          show RC _ (.sl false 1 (ils (inds fr m))) v
          rcases h2.2 with ⟨rfl, h0⟩ | ⟨g, cap, cur, rfl, hg1, hg2, hg3, hg4, hg5, hg6⟩
          · rw [hy] at h0
            subst h0
            exact .nil _ _ _
          · have hlen : ys.length = (ils (inds fr m)).length := by rw [ils_length, inds_len, hy]
            have hget : ∀ j, j < ys.length → cur[j]? = some (ys.getD j undef) := fun j hj => by
              have : cur.toList[j]? = some (ys.getD j undef) := by
                rw [← hg6] at hj ⊢
                rw [List.length_take] at hj
                rw [List.getD_eq_getElem?_getD, List.getElem?_take_of_lt (by omega), List.getElem?_eq_getElem (by omega)]; rfl
              simpa using this
            rw [hlen]
            refine .sl false 1 _ g 0 cap (fun j => ys.getD j undef) (by omega) hg4 (by simp) ?_ ?_ ?_ ?_
            · intro x hx
              obtain ⟨l, _, rfl⟩ := List.mem_map.1 hx; rfl
            all_goals (intro j hj; rw [flat_ils, ← hlen] at hj)
            · show (if (Value.slice (some ⟨g, 0, none⟩) ys.length cap).ownBlock = some g then W.cell? ⟨g, 0 + j, none⟩ else C' g (0 + j)) = _
              rw [if_pos (show (Value.slice (some ⟨g, 0, none⟩) ys.length cap).ownBlock = some g from rfl), Nat.zero_add]
              simp [World.cell?, hg2, hget j hj]
            · obtain ⟨a, b, c, e⟩ := rc_slice (h8 j hj)
              rw [e]; rfl
            · rw [flat_ils, ils_getD _ _ (by rw [inds_len]; omega)]
              have e : (inds fr m).getD j [] = (idxS fr j).1 := by simp [inds, List.getD, show j < m by omega]
              rw [e]
              exact (h8 j hj).mono hCC
      · intro k o u hu
        simp only at hu
        split at hu
        · exact hck _ _ hu
        · exact hck _ _ (h4 k o u hu)
      · exact hmore.trans (More.of_below hbD)
      · intro k hk j
        show (if v.ownBlock = some k then W.cell? ⟨k, j, none⟩ else C' k j) = C k j
        rw [if_neg, h5 k (by omega)]
        intro e
        rcases h2.2 with ⟨rfl, _⟩ | ⟨g, cap, cur, rfl, hg1, _⟩
        · cases e
        · obtain rfl : g = k := by simpa [Value.ownBlock] using e
          omega
  · have e1 : er ≠ 0 := e0
    rw [if_pos e0]
    refine callsIn_of_wp_marks Try.func34 rfl trivial ?_ rfl
    simp only [Try.ntmps34, List.size_toArray, List.length_cons, List.length_nil, Nat.reduceAdd, Nat.reduceSub, Array.replicate_succ, Array.replicate_zero, List.push_toArray, List.append_toArray, List.nil_append, List.cons_append]
    gi_wp2_with (refine ⟨trivial, ?_⟩; gi_at_call 65; refine c65.mono ?_; clear c65; rintro e w1 ⟨v, C', rfl, _, hrc, _, hmore, _⟩; obtain ⟨a, b, rfl, ha, hb2⟩ := rc_tup2 hrc; obtain rfl := rc_lit ha; obtain rfl := rc_lit hb2; clear hrc ha hb2)
    refine ⟨_, results_tmp2 rfl _ _ _, .tuple #[.slice none 0 0, .int .i64 er], C, rfl, CLe.refl _, ?_, fun k o u hu => hmore.cell (hin k o u hu), hmore, fun _ _ _ => rfl⟩
    unfold inV
    refine RC.tup _ [.slice none 0 0, .int .i64 er] rfl fun i hi => ?_
    match i, hi with
    | 1, _ => exact .lit _
    | 0, _ => exact .nil _ _ _
end Go.Proofs.Ytcjjakhmpffopaa
