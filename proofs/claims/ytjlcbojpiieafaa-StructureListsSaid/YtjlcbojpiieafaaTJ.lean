/- Lists whose elements are int elements. -/
import Derived.Test.YtjlcbojpiieafaaTD
import Derived.Test.YtjlcbojpiieafaaTH

set_option linter.all false

namespace Go.Proofs.Ytjlcbojpiieafaa
open Go Go.Fw
def kp10 (i : Nat) : List Nat := if i < 11 then if i < 5 then if i < 2 then if i < 1 then [0, 1, 2] else [0, 1, 2, 17] else if i < 3 then [6] else if i < 4 then [0, 1, 2, 22] else [6] else if i < 8 then if i < 6 then [0, 2, 7, 8] else if i < 7 then [0, 7, 8, 9] else [0, 7, 8, 9, 10] else if i < 9 then [0, 7, 9, 89] else if i < 10 then [6] else [0, 7, 9, 11] else if i < 16 then if i < 13 then if i < 12 then [0, 7, 9, 11, 117] else [6] else if i < 14 then [0, 7, 9, 11, 12] else if i < 15 then [0, 7, 9, 11, 12, 123] else [0, 7, 9, 11, 12] else if i < 19 then if i < 17 then [0, 7, 9, 11, 12, 146] else if i < 18 then [6] else [0, 7, 9, 155] else if i < 20 then [6] else if i < 21 then [0, 9, 13, 15] else [6]
set_option maxRecDepth 20000

def listB (l : List Int) : Bool := !decide ((l.length : Int) > 40) && (ofE (listA l) == 0)
noncomputable def M1 : Env := envJ (P := Try.prog) jk2 zer (fun _ => false) (fun _ => false) [con36, con45] []
theorem M1_ok : EnvOk Try.prog M1 := envJOk zer_ok
set_option maxHeartbeats 2000000 in
theorem lists_pc {ls : List (List Int)} (hm : ls.length ≤ 1000000) : PC Try.prog 44 [.sl false 1 (ils ls)] (.lit (.bool (ls.all listB))) := by
  generalize hB : ls.all listB = Bb
  refine pc_ofR M1_ok mixed (kp44) (rs := [.tmp 2]) Try.func44 rfl (by kernel_rfl) (by kernel_rfl) (Nat.le_of_ble_eq_true rfl) ?_
  simp only [initF_cons, initF_nil, Nat.reduceAdd]
  refine t_name fun KF => ?_
  unfold M1
  repeat' (first
   | (with_reducible first | refine t_seq fun K => ?_ | refine t_block ?_ | refine t_scope ?_ | refine t_label ?_ | refine t_skip ?_ | refine t_exit ?_ | refine t_ret ?_ | refine t_k ?_ | refine t_gF ?_ | exact kp_nil | exact Kp.refl _ | exact kp_to | refine kp_cons ?_ | refine kp_arr ?_ | refine kp_app ?_ | refine t_p ?_ | refine t_br (fun hc => ?_) fun hc => ?_)
   | ((with_reducible first | refine t_kE (t_openE ?_) | refine t_kD (t_openD ?_) | refine t_kE ?_ | refine t_kD ?_ | refine t_gS ?_ | refine t_kL ?_ | refine t_kLF ?_ ?_ | refine t_region fun K => ?_ | refine t_cond fun A B => ?_ | refine t_draw (by kernel_rfl) fun K => ?_); (try (first | refine t_hideE fun KL => ?_ | refine t_hideD fun KL => ?_)); simp only [go_sem, geff, kp44, con36_f, con45_f, ils_length])
   | ((with_reducible refine kp_skip ?_ ?_); rfl) | simp only [thenQ, blockQ, scopeQ, Nat.reduceEqDiff, reduceIte] | (with_reducible first | refine And.intro ?_ ?_ | intro vr))
  all_goals try (first | (with_reducible assumption) | (intros; (try simp only [Bool.and_eq_true, Bool.or_eq_true, Bool.or_eq_false_iff, Bool.not_eq_true', Bool.not_eq_false', decide_eq_true_eq, decide_eq_false_iff_not, beq_iff_eq, beq_eq_false_iff_ne, bne_iff_ne, bne_eq_false_iff_eq, ne_eq, inI64, List.length_append] at *) <;> omega))
  refine t_loopF (ι := { i : Nat // i ≤ ls.length ∧ (ls.drop i).all listB = Bb }) (fun i => [(7, .lit (.int .i64 i.1))]) (fun i => []) (fun i => ls.length - i.1) ⟨0, by omega, hB⟩ ?_ ?_
  · simp only [updL_nil, updL_cons, delF_top, delF_upd, Nat.reduceEqDiff, reduceIte]
    refine Le.frameS (by first | rfl | (simp only [go_sem]; try rfl)) ?_
    repeat' (first | exact leF_top _ | exact (fun _ => LeR.refl _) | (with_reducible refine leF_sl ?_ ?_) | (refine leF_upd ?_ ?_))
    all_goals (first | exact LeR.top _ | exact LeR.refl _ | (refine LeR.of_eq ?_; (try simp only [go_sem]); try rfl) | ((try simp only [go_sem]); try rfl))
  rintro ⟨i, hi, hF⟩ K0
  rcases Nat.lt_or_ge i ls.length with hc | hc
  · rw [drop_getD [] hc, List.all_cons] at hF
    have g3 : decide ((i : Int) < (ls.length : Int)) = true := decide_eq_true (by omega)
    cases h4 : decide (((ls.getD i []).length : Int) > 40) with
    | true =>
      rw [show listB (ls.getD i []) = false by unfold listB; rw [h4]; rfl, Bool.false_and] at hF
      repeat' (first
       | (with_reducible first | refine t_seq fun K => ?_ | refine t_block ?_ | refine t_scope ?_ | refine t_label ?_ | refine t_skip ?_ | refine t_exit ?_ | refine t_ret ?_ | refine t_k ?_ | refine t_gF ?_ | exact kp_nil | exact Kp.refl _ | exact kp_to | refine kp_cons ?_ | refine kp_arr ?_ | refine kp_app ?_ | refine t_p ?_ | refine t_br (fun hc => ?_) fun hc => ?_)
       | ((with_reducible first | refine t_kE (t_openE ?_) | refine t_kD (t_openD ?_) | refine t_kE ?_ | refine t_kD ?_ | refine t_gS ?_ | refine t_kL ?_ | refine t_kLF ?_ ?_ | refine t_region fun K => ?_ | refine t_cond fun A B => ?_ | refine t_draw (by kernel_rfl) fun K => ?_); (try (first | refine t_hideE fun KL => ?_ | refine t_hideD fun KL => ?_)); simp only [go_sem, geff, kp44, g3, h4, Int.toNat_natCast, con36_f, con45_f, con36_c, con45_c, ils_length, slK_sl])
       | ((with_reducible refine kp_skip ?_ ?_); rfl) | simp only [thenQ, blockQ, scopeQ, Nat.reduceEqDiff, reduceIte] | (with_reducible first | refine And.intro ?_ ?_ | intro vr))
      all_goals try (first | (with_reducible assumption) | (intros; (try simp only [Bool.and_eq_true, Bool.or_eq_true, Bool.or_eq_false_iff, Bool.not_eq_true', Bool.not_eq_false', decide_eq_true_eq, decide_eq_false_iff_not, beq_iff_eq, beq_eq_false_iff_ne, bne_iff_ne, bne_eq_false_iff_eq, ne_eq, inI64, List.length_append] at *) <;> omega))
      all_goals ((first | refine end_retE ?_ | refine end_normE ?_); simp only [fin, go_sem])
      rw [← hF]; exact LeA.refl _
    | false =>
      have h5 := of_decide_eq_false h4
      cases hv : (ofE (listA (ls.getD i [])) == 0) with
      | true =>
        rw [show listB (ls.getD i []) = true by unfold listB; rw [h4, hv]; rfl, Bool.true_and] at hF
        repeat' (first
         | (with_reducible first | refine t_seq fun K => ?_ | refine t_block ?_ | refine t_scope ?_ | refine t_label ?_ | refine t_skip ?_ | refine t_exit ?_ | refine t_ret ?_ | refine t_k ?_ | refine t_gF ?_ | exact kp_nil | exact Kp.refl _ | exact kp_to | refine kp_cons ?_ | refine kp_arr ?_ | refine kp_app ?_ | refine t_p ?_ | refine t_br (fun hc => ?_) fun hc => ?_)
         | ((with_reducible first | refine t_kE (t_openE ?_) | refine t_kD (t_openD ?_) | refine t_kE ?_ | refine t_kD ?_ | refine t_gS ?_ | refine t_kL ?_ | refine t_kLF ?_ ?_ | refine t_region fun K => ?_ | refine t_cond fun A B => ?_ | refine t_draw (by kernel_rfl) fun K => ?_); (try (first | refine t_hideE fun KL => ?_ | refine t_hideD fun KL => ?_)); simp only [go_sem, geff, kp44, g3, h4, hv, Int.toNat_natCast, con36_f, con45_f, con36_c, con45_c, ils_length, slK_sl, arrV_def', arrOf_agg])
         | ((with_reducible refine kp_skip ?_ ?_); rfl) | simp only [thenQ, blockQ, scopeQ, Nat.reduceEqDiff, reduceIte] | (with_reducible first | refine And.intro ?_ ?_ | intro vr))
        all_goals try (simp only [listA, List.length_cons, List.length_nil]; omega)
        all_goals try (first | (with_reducible assumption) | (intros; (try simp only [Bool.and_eq_true, Bool.or_eq_true, Bool.or_eq_false_iff, Bool.not_eq_true', Bool.not_eq_false', decide_eq_true_eq, decide_eq_false_iff_not, beq_iff_eq, beq_eq_false_iff_ne, bne_iff_ne, bne_eq_false_iff_eq, ne_eq, inI64, List.length_append] at *) <;> omega))
        refine ⟨⟨i + 1, by omega, hF⟩, by first | (simp only; omega) | omega, ?_⟩
        simp only [updL_nil, updL_cons, delF_top, delF_upd, Nat.reduceEqDiff, reduceIte]
        refine Le.frameS (by first | rfl | (simp only [go_sem]; try rfl)) ?_
        repeat' (first | exact leF_top _ | exact (fun _ => LeR.refl _) | (with_reducible refine leF_sl ?_ ?_) | (refine leF_upd ?_ ?_))
        all_goals (first | exact LeR.top _ | exact LeR.refl _ | (refine LeR.of_eq ?_; (try simp only [go_sem]); try rfl) | ((try simp only [go_sem]); try rfl))
      | false =>
        rw [show listB (ls.getD i []) = false by unfold listB; rw [h4, hv]; rfl, Bool.false_and] at hF
        repeat' (first
         | (with_reducible first | refine t_seq fun K => ?_ | refine t_block ?_ | refine t_scope ?_ | refine t_label ?_ | refine t_skip ?_ | refine t_exit ?_ | refine t_ret ?_ | refine t_k ?_ | refine t_gF ?_ | exact kp_nil | exact Kp.refl _ | exact kp_to | refine kp_cons ?_ | refine kp_arr ?_ | refine kp_app ?_ | refine t_p ?_ | refine t_br (fun hc => ?_) fun hc => ?_)
         | ((with_reducible first | refine t_kE (t_openE ?_) | refine t_kD (t_openD ?_) | refine t_kE ?_ | refine t_kD ?_ | refine t_gS ?_ | refine t_kL ?_ | refine t_kLF ?_ ?_ | refine t_region fun K => ?_ | refine t_cond fun A B => ?_ | refine t_draw (by kernel_rfl) fun K => ?_); (try (first | refine t_hideE fun KL => ?_ | refine t_hideD fun KL => ?_)); simp only [go_sem, geff, kp44, g3, h4, hv, Int.toNat_natCast, con36_f, con45_f, con36_c, con45_c, ils_length, slK_sl, arrV_def', arrOf_agg])
         | ((with_reducible refine kp_skip ?_ ?_); rfl) | simp only [thenQ, blockQ, scopeQ, Nat.reduceEqDiff, reduceIte] | (with_reducible first | refine And.intro ?_ ?_ | intro vr))
        all_goals try (simp only [listA, List.length_cons, List.length_nil]; omega)
        all_goals try (first | (with_reducible assumption) | (intros; (try simp only [Bool.and_eq_true, Bool.or_eq_true, Bool.or_eq_false_iff, Bool.not_eq_true', Bool.not_eq_false', decide_eq_true_eq, decide_eq_false_iff_not, beq_iff_eq, beq_eq_false_iff_ne, bne_iff_ne, bne_eq_false_iff_eq, ne_eq, inI64, List.length_append] at *) <;> omega))
        all_goals ((first | refine end_retE ?_ | refine end_normE ?_); simp only [fin, go_sem])
        rw [← hF]; exact LeA.refl _
  · have hie : i = ls.length := by omega
    have g3 : decide ((ls.length : Int) < (ls.length : Int)) = false := decide_eq_false (by omega)
    rw [hie, List.drop_eq_nil_of_le (by omega), List.all_nil] at hF
    repeat' (first
     | (with_reducible first | refine t_seq fun K => ?_ | refine t_block ?_ | refine t_scope ?_ | refine t_label ?_ | refine t_skip ?_ | refine t_exit ?_ | refine t_ret ?_ | refine t_k ?_ | refine t_gF ?_ | exact kp_nil | exact Kp.refl _ | exact kp_to | refine kp_cons ?_ | refine kp_arr ?_ | refine kp_app ?_ | refine t_p ?_ | refine t_br (fun hc => ?_) fun hc => ?_)
     | ((with_reducible first | refine t_kE (t_openE ?_) | refine t_kD (t_openD ?_) | refine t_kE ?_ | refine t_kD ?_ | refine t_gS ?_ | refine t_kL ?_ | refine t_kLF ?_ ?_ | refine t_region fun K => ?_ | refine t_cond fun A B => ?_ | refine t_draw (by kernel_rfl) fun K => ?_); (try (first | refine t_hideE fun KL => ?_ | refine t_hideD fun KL => ?_)); simp only [go_sem, geff, kp44, hie, g3, Int.toNat_natCast, con36_f, con45_f, ils_length])
     | ((with_reducible refine kp_skip ?_ ?_); rfl) | simp only [thenQ, blockQ, scopeQ, Nat.reduceEqDiff, reduceIte] | (with_reducible first | refine And.intro ?_ ?_ | intro vr))
    all_goals try (first | (with_reducible assumption) | (intros; (try simp only [Bool.and_eq_true, Bool.or_eq_true, Bool.or_eq_false_iff, Bool.not_eq_true', Bool.not_eq_false', decide_eq_true_eq, decide_eq_false_iff_not, beq_iff_eq, beq_eq_false_iff_ne, bne_iff_ne, bne_eq_false_iff_eq, ne_eq, inI64, List.length_append] at *) <;> omega))
    all_goals ((first | refine end_retE ?_ | refine end_normE ?_); simp only [fin, go_sem])
    rw [← hF]; exact LeA.refl _
noncomputable def con44 : PCon Try.prog where
  f := 44
  c := fun
    | [xls] => match ilsOf xls with | some ls => some (ls.length ≤ 1000000, .lit (.bool (ls.all listB))) | _ => none
    | _ => none
  ok := by
    intro args p r hc hp
    split at hc
    · split at hc
      · rename_i hls
        cases hc
        exact PC.weak (lists_pc hp) ⟨ilsOf_le hls, trivial⟩
      · cases hc
    · cases hc
  fk := fk44
theorem con44_f : con44.f = 44 := rfl
theorem con44_c {xls : AV} : con44.c [xls] = match ilsOf xls with | some ls => some (ls.length ≤ 1000000, .lit (.bool (ls.all listB))) | _ => none := rfl
end Go.Proofs.Ytjlcbojpiieafaa

/- The law on lists. -/
namespace Go.Proofs.Ytjlcbojpiieafaa
open Go Go.Fw
set_option maxRecDepth 20000

theorem ilsOf_x {b : Bool} {xs : List AV} : ilsOf (.sl b 1 xs) = ilL xs := by simp [ilsOf, slA]

theorem same_list {a : List Int} (h : vL a) : sameA (listA a) (listA a) = true := by
  unfold sameA
  rw [h.ofE, eqA_refl]; rfl
theorem vL.ok {a : List Int} (h : vL a) : okA (listA a) := okl a (by have := h.len; omega)
theorem okl1 {x : List Int} (hx : vL x) : ∀ z ∈ [listA x], okA z := okc _ _ hx.ok okn
theorem okl2 {x y : List Int} (hx : vL x) (hy : vL y) : ∀ z ∈ [listA x, listA y], okA z := okc _ _ hx.ok (okc _ _ hy.ok okn)
def remN (n : Int) (m : Nat) : Nat := n.toNat % (m + 1)
theorem remN_eq {n : Int} {m : Nat} (h : 0 ≤ n) : n.tmod ((m : Int) + 1) = (remN n m : Int) := by
  unfold remN
  rw [Int.tmod_eq_emod_of_nonneg h]
  push_cast
  rw [Int.toNat_of_nonneg h]
theorem listB_vL {l : List Int} (h : listB l = true) : vL l ∧ l.length ≤ 40 := by
  unfold listB at h
  simp only [Bool.and_eq_true, Bool.not_eq_true', decide_eq_false_iff_not, beq_iff_eq] at h
  exact ⟨vL_of h.2, by omega⟩
noncomputable def Q1 : Env := envJ (P := Try.prog) jk2 zer (fun _ => false) (fun _ => false) [con19, con38, con40, con44, con45, con46, con47] []
theorem Q1_ok : EnvOk Try.prog Q1 := envJOk zer_ok
set_option maxHeartbeats 16000000 in
theorem lists_law_pc {a b : List Int} {n : Int} (hn : 0 ≤ n ∧ n < 256) : PC Try.prog 10 [.sl false 1 (ints .i64 a), .sl false 1 (ints .i64 b), .lit (.int .u8 n)] (.lit (.bool true)) := by
  cases hg : [a, b].all listB with
  | false =>
    refine pc_ofR Q1_ok mixed (kp10) (rs := [.tmp 6]) Try.func10 rfl (by kernel_rfl) (by kernel_rfl) (Nat.le_of_ble_eq_true rfl) ?_
    simp only [initF_cons, initF_nil, Nat.reduceAdd]
    refine t_name fun KF => ?_
    unfold Q1
    repeat' (first
     | (with_reducible first | refine t_seq fun K => ?_ | refine t_block ?_ | refine t_scope ?_ | refine t_label ?_ | refine t_skip ?_ | refine t_exit ?_ | refine t_ret ?_ | refine t_k ?_ | refine t_gF ?_ | exact kp_nil | exact Kp.refl _ | exact kp_to | refine kp_cons ?_ | refine kp_arr ?_ | refine kp_app ?_ | refine t_p ?_ | refine t_br (fun hc => ?_) fun hc => ?_)
     | ((with_reducible first | refine t_kE (t_openE ?_) | refine t_kD (t_openD ?_) | refine t_kE ?_ | refine t_kD ?_ | refine t_gS ?_ | refine t_kL ?_ | refine t_kLF ?_ ?_ | refine t_region fun K => ?_ | refine t_cond fun A B => ?_ | refine t_draw (by kernel_rfl) fun K => ?_); (try (first | refine t_hideE fun KL => ?_ | refine t_hideD fun KL => ?_)); simp only [go_sem, geff, kp10, con19_f, con38_f, con40_f, con44_f, con45_f, con46_f, con47_f, con38_c, con44_c, ilsOf_x, ilL_cons, ilL_nil, slK_sl, hg])
     | ((with_reducible refine kp_skip ?_ ?_); rfl) | simp only [thenQ, blockQ, scopeQ, Nat.reduceEqDiff, reduceIte] | (with_reducible first | refine And.intro ?_ ?_ | intro vr))
    all_goals try (first | (with_reducible assumption) | (intros; (try simp only [Bool.and_eq_true, Bool.or_eq_true, Bool.or_eq_false_iff, Bool.not_eq_true', Bool.not_eq_false', decide_eq_true_eq, decide_eq_false_iff_not, beq_iff_eq, beq_eq_false_iff_ne, bne_iff_ne, bne_eq_false_iff_eq, ne_eq, inI64, List.length_append] at *) <;> omega))
    all_goals ((first | refine end_retE ?_ | refine end_normE ?_); simp only [fin, go_sem])
    exact LeA.refl _
  | true =>
    have hg2 := hg
    rw [List.all_cons, List.all_cons, List.all_nil, Bool.and_true, Bool.and_eq_true] at hg2
    obtain ⟨ha, ha40⟩ := listB_vL hg2.1
    obtain ⟨hb, hb40⟩ := listB_vL hg2.2
    have hk := remN_eq (m := a.length) hn.1
    have hkl : remN n a.length ≤ a.length := by have := Nat.mod_lt n.toNat (show 0 < a.length + 1 by omega); unfold remN; omega
    generalize remN n a.length = k at hk hkl
    have vab := ha.app hb (by omega)
    have vba := hb.app ha (by omega)
    have vaba := ha.app vba (by rw [List.length_append]; omega)
    have vt := ha.take k
    have vd := ha.drop k
    have vra := ha.rev
    have vrb := hb.rev
    have vrr := vrb.app vra (by simp; omega)
    have e1 : doA ⟨#[97, 112, 112, 101, 110, 100]⟩ 0 [listA a, listA b] = listA (a ++ b) := do_app ha hb (by omega)
    have e2 : doA ⟨#[97, 112, 112, 101, 110, 100]⟩ 0 [listA (a ++ b), listA a] = listA (a ++ (b ++ a)) := by rw [← List.append_assoc]; exact do_app vab ha (by rw [List.length_append]; omega)
    have e3 : doA ⟨#[97, 112, 112, 101, 110, 100]⟩ 0 [listA b, listA a] = listA (b ++ a) := do_app hb ha (by omega)
    have e4 : doA ⟨#[97, 112, 112, 101, 110, 100]⟩ 0 [listA a, listA (b ++ a)] = listA (a ++ (b ++ a)) := do_app ha vba (by rw [List.length_append]; omega)
    have e5 : doA ⟨#[116, 97, 107, 101]⟩ k [listA a] = listA (a.take k) := do_take ha hkl
    have e6 : doA ⟨#[100, 114, 111, 112]⟩ k [listA a] = listA (a.drop k) := do_drop ha hkl
    have e7 : doA ⟨#[97, 112, 112, 101, 110, 100]⟩ 0 [listA (a.take k), listA (a.drop k)] = listA a := by
      have := do_app vt vd (by simp; omega)
      rw [List.take_append_drop] at this
      exact this
    have e8 : doA ⟨#[114, 101, 118, 101, 114, 115, 101]⟩ 0 [listA a] = listA a.reverse := do_rev ha
    have e9 : doA ⟨#[114, 101, 118, 101, 114, 115, 101]⟩ 0 [listA a.reverse] = listA a := by have := do_rev vra; rw [List.reverse_reverse] at this; exact this
    have e10 : doA ⟨#[114, 101, 118, 101, 114, 115, 101]⟩ 0 [listA b] = listA b.reverse := do_rev hb
    have e11 : doA ⟨#[114, 101, 118, 101, 114, 115, 101]⟩ 0 [listA (a ++ b)] = listA (b.reverse ++ a.reverse) := by have := do_rev vab; rw [List.reverse_append] at this; exact this
    have e12 : doA ⟨#[97, 112, 112, 101, 110, 100]⟩ 0 [listA b.reverse, listA a.reverse] = listA (b.reverse ++ a.reverse) := do_app vrb vra (by simp; omega)
    have s1 := same_list vaba
    have s2 := same_list ha
    have s3 := same_list vrr
    have hsz : (a.length - k + 1) * k ≤ 4096 := by
      have : (a.length - k + 1) * k ≤ 41 * 40 := Nat.mul_le_mul (by omega) (by omega)
      omega
    have e13 : doA ⟨#[119, 105, 110, 100, 111, 119, 115]⟩ k [listA a] = ⟨sInt, [(a.length : Int) - k + 1, (k : Int)], winD a k⟩ := do_win ha hkl hsz (by omega)
    have hwl := winD_len (a := a) (k := k)
    have hwi : ((winD a k).length : Int) = ((a.length : Int) - k + 1) * k := by rw [hwl, Int.natCast_mul]; congr 1; omega
    have hmb := mulBd (a := (a.length : Int) - k + 1) (b := (k : Int)) ⟨by omega, by omega⟩ ⟨by omega, by omega⟩
    have hdrop : ∀ i : Nat, i ≤ a.length → doA ⟨#[100, 114, 111, 112]⟩ i [listA a] = listA (a.drop i) := fun i hi => do_drop ha hi
    have htake : ∀ i : Nat, i + k ≤ a.length → doA ⟨#[116, 97, 107, 101]⟩ k [listA (a.drop i)] = listA ((a.drop i).take k) := fun i hi => do_take (ha.drop i) (by rw [List.length_drop]; omega)
    have hchk : 1 ≤ k → a.length % k = 0 → applyS ⟨#[99, 104, 117, 110, 107]⟩ [] k [listA a] = (⟨sInt, [(a.length : Int) / k, (k : Int)], a⟩, false, 0) := fun h1 h2 => chunk_app ha h1 (by omega) h2
    have oA := ha.ok
    have oB := hb.ok
    have oAB := vab.ok
    have oBA := vba.ok
    have oABA := vaba.ok
    have oT := vt.ok
    have oD := vd.ok
    have oRA := vra.ok
    have oRB := vrb.ok
    have oRR := vrr.ok
    have okd : ∀ i : Nat, okA (listA (a.drop i)) := fun i => (ha.drop i).ok
    generalize hAB : listA (a ++ b) = AB at *
    generalize hBA : listA (b ++ a) = BA at *
    generalize hABA : listA (a ++ (b ++ a)) = ABA at *
    generalize hRR : listA (b.reverse ++ a.reverse) = RR at *
    generalize hT : listA (a.take k) = TT at *
    generalize hD : listA (a.drop k) = DD at *
    generalize hRA : listA a.reverse = RA at *
    generalize hRB : listA b.reverse = RB at *
    generalize hA : listA a = AA at *
    generalize hB : listA b = BB at *
    have l1 := okc AA [] oA okn
    have l2 := okc AA [BB] oA (okc BB [] oB okn)
    have l3 := okc AB [AA] oAB (okc AA [] oA okn)
    have l4 := okc BB [AA] oB (okc AA [] oA okn)
    have l5 := okc AA [BA] oA (okc BA [] oBA okn)
    have l6 := okc TT [DD] oT (okc DD [] oD okn)
    have l7 := okc RA [] oRA okn
    have l8 := okc AB [] oAB okn
    have l9 := okc BB [] oB okn
    have l10 := okc RB [RA] oRB (okc RA [] oRA okn)
    have hw : IntKind.i64.wrap n = n := wrap_i64 (by unfold inI64; omega)
    refine pc_ofR Q1_ok mixed (kp10) (rs := [.tmp 6]) Try.func10 rfl (by kernel_rfl) (by kernel_rfl) (Nat.le_of_ble_eq_true rfl) ?_
    simp only [initF_cons, initF_nil, Nat.reduceAdd]
    refine t_name fun KF => ?_
    unfold Q1
    repeat' (first
     | (with_reducible first | refine t_seq fun K => ?_ | refine t_block ?_ | refine t_scope ?_ | refine t_label ?_ | refine t_skip ?_ | refine t_exit ?_ | refine t_ret ?_ | refine t_k ?_ | refine t_gF ?_ | exact kp_nil | exact Kp.refl _ | exact kp_to | refine kp_cons ?_ | refine kp_arr ?_ | refine kp_app ?_ | refine t_p ?_ | refine t_br (fun hc => ?_) fun hc => ?_)
     | ((with_reducible first | refine t_kE (t_openE ?_) | refine t_kD (t_openD ?_) | refine t_kE ?_ | refine t_kD ?_ | refine t_gS ?_ | refine t_kL ?_ | refine t_kLF ?_ ?_ | refine t_region fun K => ?_ | refine t_cond fun A B => ?_ | refine t_draw (by kernel_rfl) fun K => ?_); (try (first | refine t_hideE fun KL => ?_ | refine t_hideD fun KL => ?_)); simp only [go_sem, geff, kp10, con19_f, con38_f, con40_f, con44_f, con45_f, con46_f, con47_f, con19_c, con38_c, con44_c, con45_c, con46_c, con47_c, ilsOf_x, ilL_cons, ilL_nil, hg, slK_sl, slK_cons, slK_emp, arrsOf_x, arrL_cons, arrL_nil, arrOf_agg, arrV_def', arr_eta, hw, hk, hwi, bne_self_eq_false, hA, hB, e1, e2, e3, e4, e5, e6, e7, e8, e9, e10, e11, e12, e13, s1, s2, s3, Option.map_some, dself'])
     | ((with_reducible refine kp_skip ?_ ?_); rfl) | simp only [thenQ, blockQ, scopeQ, Nat.reduceEqDiff, reduceIte] | (with_reducible first | refine And.intro ?_ ?_ | intro vr))
    all_goals try (first | exact l1 _ (by assumption) | exact l2 _ (by assumption) | exact l3 _ (by assumption) | exact l4 _ (by assumption) | exact l5 _ (by assumption) | exact l6 _ (by assumption) | exact l7 _ (by assumption) | exact l8 _ (by assumption) | exact l9 _ (by assumption) | exact l10 _ (by assumption) | exact oABA | exact oA | exact oRR | decide)
    all_goals try (first | (with_reducible assumption) | (intros; (try simp only [Bool.and_eq_true, Bool.or_eq_true, Bool.or_eq_false_iff, Bool.not_eq_true', Bool.not_eq_false', decide_eq_true_eq, decide_eq_false_iff_not, beq_iff_eq, beq_eq_false_iff_ne, bne_iff_ne, bne_eq_false_iff_eq, ne_eq, inI64, List.length_append] at *) <;> omega))
    refine t_loopF (ι := { i : Nat // i ≤ a.length + 1 }) (fun i => [(12, .lit (.int .i64 i.1))]) (fun i => [.box 33 [.lit (.string AA.e), .sl false 1 (ints .i64 AA.d), .sl false 1 (ints .i64 AA.x)], .box 33 [.lit (.string BB.e), .sl false 1 (ints .i64 BB.d), .sl false 1 (ints .i64 BB.x)], .box 33 [.lit (.string AB.e), .sl false 1 (ints .i64 AB.d), .sl false 1 (ints .i64 AB.x)], .box 33 [.lit (.string sInt), .sl false 1 (ints .i64 [(a.length : Int) - k + 1, (k : Int)]), .sl false 1 (ints .i64 (winD a k))]]) (fun i => a.length + 1 - i.1) ⟨0, by omega⟩ ?_ ?_
    · simp only [updL_nil, updL_cons, delF_top, delF_upd, Nat.reduceEqDiff, reduceIte]
      refine Le.frameS (by first | rfl | (simp only [go_sem]; try rfl)) ?_
      repeat' (first | exact leF_top _ | exact (fun _ => LeR.refl _) | (with_reducible refine leF_sl ?_ ?_) | (refine leF_upd ?_ ?_))
      all_goals (first | exact LeR.top _ | exact LeR.refl _ | (refine LeR.of_eq ?_; (try simp only [go_sem]); try rfl) | ((try simp only [go_sem]); try rfl))
    rintro ⟨i, hi⟩ K0
    rcases Nat.lt_or_ge a.length (i + k) with hc | hc
    · have g3 : decide ((i : Int) + (k : Int) ≤ (a.length : Int)) = false := decide_eq_false (by omega)
      rcases Bool.eq_false_or_eq_true (((k : Int) == 0) || ((a.length : Int).tmod k != 0)) with hz | hz
      · skip
        repeat' (first
         | (with_reducible first | refine t_seq fun K => ?_ | refine t_block ?_ | refine t_scope ?_ | refine t_label ?_ | refine t_skip ?_ | refine t_exit ?_ | refine t_ret ?_ | refine t_k ?_ | refine t_gF ?_ | exact kp_nil | exact Kp.refl _ | exact kp_to | refine kp_cons ?_ | refine kp_arr ?_ | refine kp_app ?_ | refine t_p ?_ | refine t_br (fun hc => ?_) fun hc => ?_)
         | ((with_reducible first | refine t_kE (t_openE ?_) | refine t_kD (t_openD ?_) | refine t_kE ?_ | refine t_kD ?_ | refine t_gS ?_ | refine t_kL ?_ | refine t_kLF ?_ ?_ | refine t_region fun K => ?_ | refine t_cond fun A B => ?_ | refine t_draw (by kernel_rfl) fun K => ?_); (try (first | refine t_hideE fun KL => ?_ | refine t_hideD fun KL => ?_)); simp only [go_sem, geff, kp10, g3, hz, Int.toNat_natCast, con19_f, con38_f, con40_f, con44_f, con45_f, con46_f, con47_f])
         | ((with_reducible refine kp_skip ?_ ?_); rfl) | simp only [thenQ, blockQ, scopeQ, Nat.reduceEqDiff, reduceIte] | (with_reducible first | refine And.intro ?_ ?_ | intro vr))
        all_goals try (first | (with_reducible assumption) | (intros; (try simp only [Bool.and_eq_true, Bool.or_eq_true, Bool.or_eq_false_iff, Bool.not_eq_true', Bool.not_eq_false', decide_eq_true_eq, decide_eq_false_iff_not, beq_iff_eq, beq_eq_false_iff_ne, bne_iff_ne, bne_eq_false_iff_eq, ne_eq, inI64, List.length_append] at *) <;> omega))
        all_goals ((first | refine end_retE ?_ | refine end_normE ?_); simp only [fin, go_sem])
        exact LeA.refl _
      · have hz1 : 1 ≤ k := by
          rw [Bool.or_eq_false_iff, beq_eq_false_iff_ne] at hz
          omega
        have hz2 : a.length % k = 0 := by
          rw [Bool.or_eq_false_iff, bne_eq_false_iff_eq, Int.tmod_eq_emod_of_nonneg (by omega)] at hz
          have := hz.2
          rw [← Int.natCast_emod] at this
          omega
        have hck := hchk hz1 hz2
        have tq : (a.length : Int).tdiv k = (a.length : Int) / k := Int.tdiv_eq_ediv_of_nonneg (by omega)
        have q0 : 0 ≤ (a.length : Int) / k := Int.ediv_nonneg (by omega) (by omega)
        have q1 : (a.length : Int) / k ≤ a.length := Int.ediv_le_self _ (by omega)
        generalize (a.length : Int) / k = qq at *
        have d1 := dself' [qq, (k : Int)]
        have d2 := dself' a
        repeat' (first
         | (with_reducible first | refine t_seq fun K => ?_ | refine t_block ?_ | refine t_scope ?_ | refine t_label ?_ | refine t_skip ?_ | refine t_exit ?_ | refine t_ret ?_ | refine t_k ?_ | refine t_gF ?_ | exact kp_nil | exact Kp.refl _ | exact kp_to | refine kp_cons ?_ | refine kp_arr ?_ | refine kp_app ?_ | refine t_p ?_ | refine t_br (fun hc => ?_) fun hc => ?_)
         | ((with_reducible first | refine t_kE (t_openE ?_) | refine t_kD (t_openD ?_) | refine t_kE ?_ | refine t_kD ?_ | refine t_gS ?_ | refine t_kL ?_ | refine t_kLF ?_ ?_ | refine t_region fun K => ?_ | refine t_cond fun A B => ?_ | refine t_draw (by kernel_rfl) fun K => ?_); (try (first | refine t_hideE fun KL => ?_ | refine t_hideD fun KL => ?_)); simp only [go_sem, geff, kp10, g3, hz, hck, tq, d1, d2, Int.toNat_natCast, con19_f, con38_f, con40_f, con44_f, con45_f, con46_f, con47_f, con19_c, con40_c, appV_def, arrsOf_x, arrL_cons, arrL_nil, arrOf_agg, slK_sl, slK_cons, slK_emp, slK_nil, arrV_def', arr_eta, Option.map_some])
         | ((with_reducible refine kp_skip ?_ ?_); rfl) | simp only [thenQ, blockQ, scopeQ, Nat.reduceEqDiff, reduceIte] | (with_reducible first | refine And.intro ?_ ?_ | intro vr))
        all_goals try (first | exact l1 _ (by assumption) | decide)
        all_goals try (first | (with_reducible assumption) | (intros; (try simp only [Bool.and_eq_true, Bool.or_eq_true, Bool.or_eq_false_iff, Bool.not_eq_true', Bool.not_eq_false', decide_eq_true_eq, decide_eq_false_iff_not, beq_iff_eq, beq_eq_false_iff_ne, bne_iff_ne, bne_eq_false_iff_eq, ne_eq, inI64, List.length_append] at *) <;> omega))
        all_goals ((first | refine end_retE ?_ | refine end_normE ?_); simp only [fin, go_sem])
        exact LeA.refl _
    · have g3 : decide ((i : Int) + (k : Int) ≤ (a.length : Int)) = true := decide_eq_true (by omega)
      have hdi := hdrop i (by omega)
      have hti := htake i hc
      have odi := okd i
      have hrow : ((winD a k).take (i * k + k)).drop (i * k) = (a.drop i).take k := by rw [List.drop_take, Nat.add_sub_cancel_left]; exact win_row hc
      have hrl : ((a.drop i).take k).length ≤ 1000000 := by rw [List.length_take]; omega
      have hdl : (listA ((a.drop i).take k)).x = (a.drop i).take k := rfl
      have hbk := mulBd (a := (i : Int)) (b := (k : Int)) ⟨by omega, by omega⟩ ⟨by omega, by omega⟩
      have ht1 : ((i : Int) * (k : Int)).toNat = i * k := by rw [← Int.natCast_mul, Int.toNat_natCast]
      have ht2 : ((i : Int) * (k : Int) + (k : Int)).toNat = i * k + k := by rw [← Int.natCast_mul, ← Int.natCast_add, Int.toNat_natCast]
      have hwb : (i : Int) * (k : Int) + (k : Int) ≤ ((winD a k).length : Int) := by
        have h1 : (i + 1) * k ≤ (a.length - k + 1) * k := Nat.mul_le_mul_right _ (by omega)
        rw [Nat.add_mul, Nat.one_mul, ← hwl] at h1
        rw [← Int.natCast_mul]
        omega
      have d3 := dself' ((a.drop i).take k)
      generalize listA (a.drop i) = Di at *
      have l11 := okc Di [] odi okn
      repeat' (first
       | (with_reducible first | refine t_seq fun K => ?_ | refine t_block ?_ | refine t_scope ?_ | refine t_label ?_ | refine t_skip ?_ | refine t_exit ?_ | refine t_ret ?_ | refine t_k ?_ | refine t_gF ?_ | exact kp_nil | exact Kp.refl _ | exact kp_to | refine kp_cons ?_ | refine kp_arr ?_ | refine kp_app ?_ | refine t_p ?_ | refine t_br (fun hc => ?_) fun hc => ?_)
       | ((with_reducible first | refine t_kE (t_openE ?_) | refine t_kD (t_openD ?_) | refine t_kE ?_ | refine t_kD ?_ | refine t_gS ?_ | refine t_kL ?_ | refine t_kLF ?_ ?_ | refine t_region fun K => ?_ | refine t_cond fun A B => ?_ | refine t_draw (by kernel_rfl) fun K => ?_); (try (first | refine t_hideE fun KL => ?_ | refine t_hideD fun KL => ?_)); simp only [go_sem, geff, kp10, g3, hdi, hti, hdl, hrow, ht1, ht2, d3, Int.toNat_natCast, con19_f, con38_f, con40_f, con44_f, con45_f, con46_f, con47_f, con19_c, con46_c, arrsOf_x, arrL_cons, arrL_nil, arrOf_agg, slK_sl, arrV_def', arr_eta])
       | ((with_reducible refine kp_skip ?_ ?_); rfl) | simp only [thenQ, blockQ, scopeQ, Nat.reduceEqDiff, reduceIte] | (with_reducible first | refine And.intro ?_ ?_ | intro vr))
      all_goals try (first | exact l1 _ (by assumption) | exact l11 _ (by assumption) | decide)
      all_goals try (first | (with_reducible assumption) | (intros; (try simp only [Bool.and_eq_true, Bool.or_eq_true, Bool.or_eq_false_iff, Bool.not_eq_true', Bool.not_eq_false', decide_eq_true_eq, decide_eq_false_iff_not, beq_iff_eq, beq_eq_false_iff_ne, bne_iff_ne, bne_eq_false_iff_eq, ne_eq, inI64, List.length_append] at *) <;> omega))
      refine ⟨⟨i + 1, by omega⟩, by first | (simp only; omega) | omega, ?_⟩
      simp only [updL_nil, updL_cons, delF_top, delF_upd, Nat.reduceEqDiff, reduceIte]
      refine Le.frameS (by first | rfl | (simp only [go_sem]; try rfl)) ?_
      repeat' (first | exact leF_top _ | exact (fun _ => LeR.refl _) | (with_reducible refine leF_sl ?_ ?_) | (refine leF_upd ?_ ?_))
      all_goals (first | exact LeR.top _ | exact LeR.refl _ | (refine LeR.of_eq ?_; (try simp only [go_sem]); try rfl) | ((try simp only [go_sem]); try rfl))
theorem lists_law : ∀ xs, ShL Try.prog Try.f10.params.toList xs → PC Try.prog 10 xs (.lit (.bool true))
  | [x, y, z], h => by
    obtain ⟨a, rfl, _⟩ := shv_ints u23 u3 sz3 h.1
    obtain ⟨b, rfl, _⟩ := shv_ints u23 u3 sz3 h.2.1
    obtain ⟨n, rfl, hn⟩ := shv_int u5 h.2.2.1
    exact lists_law_pc (wf_u8 hn)
  | [], h => h.elim
  | [_], h => h.2.elim
  | [_, _], h => h.2.2.elim
  | _ :: _ :: _ :: _ :: _, h => h.2.2.2.elim
end Go.Proofs.Ytjlcbojpiieafaa
