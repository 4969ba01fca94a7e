/- Places of elements; ranks; dimensions of results. -/
import Derived.Test.YtjlcbojpiieafaaSA
import Derived.Ground.Names2Prog
import Derived.Shelf.Slices.Delete
import Derived.Test.YtjlcbojpiieafaaProg
import Derived.Test.YtjlcbojpiieafaaFwB

set_option linter.all false

namespace Go.Proofs.Ytjlcbojpiieafaa
open Go Go.Fw

def fromS (g : Nat) (k : Int) (d x : List Int) : Int :=
  match g with
  | 104 => 0
  | 107 => x.getD 0 0
  | 109 => x.getD 0 0 + k
  | 111 => d.getD 0 0 - 1 - x.getD 0 0
  | 114 => x.getD 1 0 * d.getD 1 0 + x.getD 0 0
  | 116 => x.getD 0 0 * d.getD 1 0 + x.getD 0 0
  | 118 => x.getD 0 0 + x.getD 1 0
  | 120 => x.getD 0 0 * k + x.getD 1 0
  | _ => 0
def fromP (g : Nat) (d x : List Int) : Prop :=
  match g with
  | 107 | 109 => 0 < x.length
  | 111 => 0 < x.length ∧ 0 < d.length
  | 114 => 1 < x.length ∧ 1 < d.length
  | 116 => 0 < x.length ∧ 1 < d.length
  | 118 | 120 => 1 < x.length
  | _ => True
def liBd (d : List Int) : Prop := ∀ x ∈ d, 0 ≤ x ∧ x ≤ 4096
theorem liBd_get {d : List Int} (h : liBd d) (j : Nat) : 0 ≤ d.getD j 0 ∧ d.getD j 0 ≤ 4096 := by
  by_cases h2 : j < d.length
  · have : d.getD j 0 ∈ d := by rw [List.getD_eq_getElem?_getD, List.getElem?_eq_getElem h2]; exact List.getElem_mem h2
    exact h _ this
  · have : d.getD j 0 = 0 := by rw [List.getD_eq_getElem?_getD, List.getElem?_eq_none (by omega)]; rfl
    omega
theorem mulBd {a b : Int} (h : 0 ≤ a ∧ a ≤ 4096) (h' : 0 ≤ b ∧ b ≤ 4096) : 0 ≤ a * b ∧ a * b ≤ 16777216 := by
  have h1 := Int.mul_nonneg h.1 h'.1
  have h2 : a * b ≤ 4096 * 4096 := Int.mul_le_mul h.2 h'.2 h'.1 (by omega)
  omega
set_option maxHeartbeats 2000000 in
theorem from_pc {g : FuncId} (hg : g ∈ [104, 107, 109, 111, 114, 116, 118, 120]) {k : Int} {d x : List Int} (hp : fromP g d x) (hd : liBd d) (hx : liBd x) (hk : 0 ≤ k ∧ k ≤ 4096) :
    PC Try.prog g [.lit (.int .i64 k), .sl false 1 (ints .i64 d), .sl false 1 (ints .i64 x)] (.lit (.int .i64 (fromS g k d x))) := by
  have d0 := liBd_get hd 0
  have d1 := liBd_get hd 1
  have x0 := liBd_get hx 0
  have x1 := liBd_get hx 1
  have m1 := mulBd x1 d1
  have m2 := mulBd x0 d1
  have m3 := mulBd x0 hk
  simp only [List.mem_cons, List.not_mem_nil, or_false] at hg
  rcases hg with rfl | rfl | rfl | rfl | rfl | rfl | rfl | rfl <;> simp only [fromP] at hp
  · skip
    refine pc_ofR F1_ok mixed (fun _ => [6]) (rs := [.tmp 6]) Try.func104 rfl (by kernel_rfl) (by kernel_rfl) (Nat.le_of_ble_eq_true rfl) ?_
    simp only [initF_cons, initF_nil, Nat.reduceAdd]
    refine t_name fun KF => ?_
    unfold F1
    repeat' (first
     | (with_reducible first | refine t_seq fun K => ?_ | refine t_block ?_ | refine t_scope ?_ | refine t_label ?_ | refine t_skip ?_ | refine t_exit ?_ | refine t_ret ?_ | refine t_k ?_ | refine t_gF ?_ | exact kp_nil | exact Kp.refl _ | exact kp_to | refine kp_cons ?_ | refine kp_arr ?_ | refine kp_app ?_ | refine t_p ?_ | refine t_br (fun hc => ?_) fun hc => ?_)
     | ((with_reducible first | refine t_kE ?_ | refine t_kD ?_ | refine t_gS ?_ | refine t_kL ?_ | refine t_kLF ?_ ?_ | refine t_region fun K => ?_ | refine t_cond fun A B => ?_ | refine t_draw (by kernel_rfl) fun K => ?_); simp only [go_sem, geff])
     | ((with_reducible refine kp_skip ?_ ?_); rfl) | simp only [thenQ, blockQ, scopeQ, Nat.reduceEqDiff, reduceIte] | (with_reducible first | refine And.intro ?_ ?_ | intro vr))
    all_goals try (first | (with_reducible assumption) | (intros; (try simp only [Bool.and_eq_true, Bool.or_eq_true, Bool.or_eq_false_iff, Bool.not_eq_true', Bool.not_eq_false', decide_eq_true_eq, decide_eq_false_iff_not, beq_iff_eq, beq_eq_false_iff_ne, bne_iff_ne, bne_eq_false_iff_eq, ne_eq, inI64, List.length_append] at *) <;> omega))
    all_goals ((first | refine end_retE ?_ | refine end_normE ?_); simp only [fin, go_sem])
    all_goals exact LeA.refl _
  · skip
    refine pc_ofR F1_ok mixed (fun _ => [2, 6]) (rs := [.tmp 6]) Try.func107 rfl (by kernel_rfl) (by kernel_rfl) (Nat.le_of_ble_eq_true rfl) ?_
    simp only [initF_cons, initF_nil, Nat.reduceAdd]
    refine t_name fun KF => ?_
    unfold F1
    repeat' (first
     | (with_reducible first | refine t_seq fun K => ?_ | refine t_block ?_ | refine t_scope ?_ | refine t_label ?_ | refine t_skip ?_ | refine t_exit ?_ | refine t_ret ?_ | refine t_k ?_ | refine t_gF ?_ | exact kp_nil | exact Kp.refl _ | exact kp_to | refine kp_cons ?_ | refine kp_arr ?_ | refine kp_app ?_ | refine t_p ?_ | refine t_br (fun hc => ?_) fun hc => ?_)
     | ((with_reducible first | refine t_kE ?_ | refine t_kD ?_ | refine t_gS ?_ | refine t_kL ?_ | refine t_kLF ?_ ?_ | refine t_region fun K => ?_ | refine t_cond fun A B => ?_ | refine t_draw (by kernel_rfl) fun K => ?_); simp only [go_sem, geff])
     | ((with_reducible refine kp_skip ?_ ?_); rfl) | simp only [thenQ, blockQ, scopeQ, Nat.reduceEqDiff, reduceIte] | (with_reducible first | refine And.intro ?_ ?_ | intro vr))
    all_goals try (first | (with_reducible assumption) | (intros; (try simp only [Bool.and_eq_true, Bool.or_eq_true, Bool.or_eq_false_iff, Bool.not_eq_true', Bool.not_eq_false', decide_eq_true_eq, decide_eq_false_iff_not, beq_iff_eq, beq_eq_false_iff_ne, bne_iff_ne, bne_eq_false_iff_eq, ne_eq, inI64, List.length_append] at *) <;> omega))
    all_goals ((first | refine end_retE ?_ | refine end_normE ?_); simp only [fin, go_sem])
    all_goals exact LeA.refl _
  · skip
    refine pc_ofR F1_ok mixed (fun _ => [0, 2, 6]) (rs := [.tmp 6]) Try.func109 rfl (by kernel_rfl) (by kernel_rfl) (Nat.le_of_ble_eq_true rfl) ?_
    simp only [initF_cons, initF_nil, Nat.reduceAdd]
    refine t_name fun KF => ?_
    unfold F1
    repeat' (first
     | (with_reducible first | refine t_seq fun K => ?_ | refine t_block ?_ | refine t_scope ?_ | refine t_label ?_ | refine t_skip ?_ | refine t_exit ?_ | refine t_ret ?_ | refine t_k ?_ | refine t_gF ?_ | exact kp_nil | exact Kp.refl _ | exact kp_to | refine kp_cons ?_ | refine kp_arr ?_ | refine kp_app ?_ | refine t_p ?_ | refine t_br (fun hc => ?_) fun hc => ?_)
     | ((with_reducible first | refine t_kE ?_ | refine t_kD ?_ | refine t_gS ?_ | refine t_kL ?_ | refine t_kLF ?_ ?_ | refine t_region fun K => ?_ | refine t_cond fun A B => ?_ | refine t_draw (by kernel_rfl) fun K => ?_); simp only [go_sem, geff])
     | ((with_reducible refine kp_skip ?_ ?_); rfl) | simp only [thenQ, blockQ, scopeQ, Nat.reduceEqDiff, reduceIte] | (with_reducible first | refine And.intro ?_ ?_ | intro vr))
    all_goals try (first | (with_reducible assumption) | (intros; (try simp only [Bool.and_eq_true, Bool.or_eq_true, Bool.or_eq_false_iff, Bool.not_eq_true', Bool.not_eq_false', decide_eq_true_eq, decide_eq_false_iff_not, beq_iff_eq, beq_eq_false_iff_ne, bne_iff_ne, bne_eq_false_iff_eq, ne_eq, inI64, List.length_append] at *) <;> omega))
    all_goals ((first | refine end_retE ?_ | refine end_normE ?_); simp only [fin, go_sem])
    all_goals exact LeA.refl _
  · skip
    refine pc_ofR F1_ok mixed (fun _ => [1, 2, 6]) (rs := [.tmp 6]) Try.func111 rfl (by kernel_rfl) (by kernel_rfl) (Nat.le_of_ble_eq_true rfl) ?_
    simp only [initF_cons, initF_nil, Nat.reduceAdd]
    refine t_name fun KF => ?_
    unfold F1
    repeat' (first
     | (with_reducible first | refine t_seq fun K => ?_ | refine t_block ?_ | refine t_scope ?_ | refine t_label ?_ | refine t_skip ?_ | refine t_exit ?_ | refine t_ret ?_ | refine t_k ?_ | refine t_gF ?_ | exact kp_nil | exact Kp.refl _ | exact kp_to | refine kp_cons ?_ | refine kp_arr ?_ | refine kp_app ?_ | refine t_p ?_ | refine t_br (fun hc => ?_) fun hc => ?_)
     | ((with_reducible first | refine t_kE ?_ | refine t_kD ?_ | refine t_gS ?_ | refine t_kL ?_ | refine t_kLF ?_ ?_ | refine t_region fun K => ?_ | refine t_cond fun A B => ?_ | refine t_draw (by kernel_rfl) fun K => ?_); simp only [go_sem, geff])
     | ((with_reducible refine kp_skip ?_ ?_); rfl) | simp only [thenQ, blockQ, scopeQ, Nat.reduceEqDiff, reduceIte] | (with_reducible first | refine And.intro ?_ ?_ | intro vr))
    all_goals try (first | (with_reducible assumption) | (intros; (try simp only [Bool.and_eq_true, Bool.or_eq_true, Bool.or_eq_false_iff, Bool.not_eq_true', Bool.not_eq_false', decide_eq_true_eq, decide_eq_false_iff_not, beq_iff_eq, beq_eq_false_iff_ne, bne_iff_ne, bne_eq_false_iff_eq, ne_eq, inI64, List.length_append] at *) <;> omega))
    all_goals ((first | refine end_retE ?_ | refine end_normE ?_); simp only [fin, go_sem])
    all_goals exact LeA.refl _
  · skip
    refine pc_ofR F1_ok mixed (fun _ => [1, 2, 6]) (rs := [.tmp 6]) Try.func114 rfl (by kernel_rfl) (by kernel_rfl) (Nat.le_of_ble_eq_true rfl) ?_
    simp only [initF_cons, initF_nil, Nat.reduceAdd]
    refine t_name fun KF => ?_
    unfold F1
    repeat' (first
     | (with_reducible first | refine t_seq fun K => ?_ | refine t_block ?_ | refine t_scope ?_ | refine t_label ?_ | refine t_skip ?_ | refine t_exit ?_ | refine t_ret ?_ | refine t_k ?_ | refine t_gF ?_ | exact kp_nil | exact Kp.refl _ | exact kp_to | refine kp_cons ?_ | refine kp_arr ?_ | refine kp_app ?_ | refine t_p ?_ | refine t_br (fun hc => ?_) fun hc => ?_)
     | ((with_reducible first | refine t_kE ?_ | refine t_kD ?_ | refine t_gS ?_ | refine t_kL ?_ | refine t_kLF ?_ ?_ | refine t_region fun K => ?_ | refine t_cond fun A B => ?_ | refine t_draw (by kernel_rfl) fun K => ?_); simp only [go_sem, geff])
     | ((with_reducible refine kp_skip ?_ ?_); rfl) | simp only [thenQ, blockQ, scopeQ, Nat.reduceEqDiff, reduceIte] | (with_reducible first | refine And.intro ?_ ?_ | intro vr))
    all_goals try (first | (with_reducible assumption) | (intros; (try simp only [Bool.and_eq_true, Bool.or_eq_true, Bool.or_eq_false_iff, Bool.not_eq_true', Bool.not_eq_false', decide_eq_true_eq, decide_eq_false_iff_not, beq_iff_eq, beq_eq_false_iff_ne, bne_iff_ne, bne_eq_false_iff_eq, ne_eq, inI64, List.length_append] at *) <;> omega))
    all_goals ((first | refine end_retE ?_ | refine end_normE ?_); simp only [fin, go_sem])
    all_goals exact LeA.refl _
  · skip
    refine pc_ofR F1_ok mixed (fun _ => [1, 2, 6]) (rs := [.tmp 6]) Try.func116 rfl (by kernel_rfl) (by kernel_rfl) (Nat.le_of_ble_eq_true rfl) ?_
    simp only [initF_cons, initF_nil, Nat.reduceAdd]
    refine t_name fun KF => ?_
    unfold F1
    repeat' (first
     | (with_reducible first | refine t_seq fun K => ?_ | refine t_block ?_ | refine t_scope ?_ | refine t_label ?_ | refine t_skip ?_ | refine t_exit ?_ | refine t_ret ?_ | refine t_k ?_ | refine t_gF ?_ | exact kp_nil | exact Kp.refl _ | exact kp_to | refine kp_cons ?_ | refine kp_arr ?_ | refine kp_app ?_ | refine t_p ?_ | refine t_br (fun hc => ?_) fun hc => ?_)
     | ((with_reducible first | refine t_kE ?_ | refine t_kD ?_ | refine t_gS ?_ | refine t_kL ?_ | refine t_kLF ?_ ?_ | refine t_region fun K => ?_ | refine t_cond fun A B => ?_ | refine t_draw (by kernel_rfl) fun K => ?_); simp only [go_sem, geff])
     | ((with_reducible refine kp_skip ?_ ?_); rfl) | simp only [thenQ, blockQ, scopeQ, Nat.reduceEqDiff, reduceIte] | (with_reducible first | refine And.intro ?_ ?_ | intro vr))
    all_goals try (first | (with_reducible assumption) | (intros; (try simp only [Bool.and_eq_true, Bool.or_eq_true, Bool.or_eq_false_iff, Bool.not_eq_true', Bool.not_eq_false', decide_eq_true_eq, decide_eq_false_iff_not, beq_iff_eq, beq_eq_false_iff_ne, bne_iff_ne, bne_eq_false_iff_eq, ne_eq, inI64, List.length_append] at *) <;> omega))
    all_goals ((first | refine end_retE ?_ | refine end_normE ?_); simp only [fin, go_sem])
    all_goals exact LeA.refl _
  · skip
    refine pc_ofR F1_ok mixed (fun _ => [2, 6]) (rs := [.tmp 6]) Try.func118 rfl (by kernel_rfl) (by kernel_rfl) (Nat.le_of_ble_eq_true rfl) ?_
    simp only [initF_cons, initF_nil, Nat.reduceAdd]
    refine t_name fun KF => ?_
    unfold F1
    repeat' (first
     | (with_reducible first | refine t_seq fun K => ?_ | refine t_block ?_ | refine t_scope ?_ | refine t_label ?_ | refine t_skip ?_ | refine t_exit ?_ | refine t_ret ?_ | refine t_k ?_ | refine t_gF ?_ | exact kp_nil | exact Kp.refl _ | exact kp_to | refine kp_cons ?_ | refine kp_arr ?_ | refine kp_app ?_ | refine t_p ?_ | refine t_br (fun hc => ?_) fun hc => ?_)
     | ((with_reducible first | refine t_kE ?_ | refine t_kD ?_ | refine t_gS ?_ | refine t_kL ?_ | refine t_kLF ?_ ?_ | refine t_region fun K => ?_ | refine t_cond fun A B => ?_ | refine t_draw (by kernel_rfl) fun K => ?_); simp only [go_sem, geff])
     | ((with_reducible refine kp_skip ?_ ?_); rfl) | simp only [thenQ, blockQ, scopeQ, Nat.reduceEqDiff, reduceIte] | (with_reducible first | refine And.intro ?_ ?_ | intro vr))
    all_goals try (first | (with_reducible assumption) | (intros; (try simp only [Bool.and_eq_true, Bool.or_eq_true, Bool.or_eq_false_iff, Bool.not_eq_true', Bool.not_eq_false', decide_eq_true_eq, decide_eq_false_iff_not, beq_iff_eq, beq_eq_false_iff_ne, bne_iff_ne, bne_eq_false_iff_eq, ne_eq, inI64, List.length_append] at *) <;> omega))
    all_goals ((first | refine end_retE ?_ | refine end_normE ?_); simp only [fin, go_sem])
    all_goals exact LeA.refl _
  · skip
    refine pc_ofR F1_ok mixed (fun _ => [0, 2, 6]) (rs := [.tmp 6]) Try.func120 rfl (by kernel_rfl) (by kernel_rfl) (Nat.le_of_ble_eq_true rfl) ?_
    simp only [initF_cons, initF_nil, Nat.reduceAdd]
    refine t_name fun KF => ?_
    unfold F1
    repeat' (first
     | (with_reducible first | refine t_seq fun K => ?_ | refine t_block ?_ | refine t_scope ?_ | refine t_label ?_ | refine t_skip ?_ | refine t_exit ?_ | refine t_ret ?_ | refine t_k ?_ | refine t_gF ?_ | exact kp_nil | exact Kp.refl _ | exact kp_to | refine kp_cons ?_ | refine kp_arr ?_ | refine kp_app ?_ | refine t_p ?_ | refine t_br (fun hc => ?_) fun hc => ?_)
     | ((with_reducible first | refine t_kE ?_ | refine t_kD ?_ | refine t_gS ?_ | refine t_kL ?_ | refine t_kLF ?_ ?_ | refine t_region fun K => ?_ | refine t_cond fun A B => ?_ | refine t_draw (by kernel_rfl) fun K => ?_); simp only [go_sem, geff])
     | ((with_reducible refine kp_skip ?_ ?_); rfl) | simp only [thenQ, blockQ, scopeQ, Nat.reduceEqDiff, reduceIte] | (with_reducible first | refine And.intro ?_ ?_ | intro vr))
    all_goals try (first | (with_reducible assumption) | (intros; (try simp only [Bool.and_eq_true, Bool.or_eq_true, Bool.or_eq_false_iff, Bool.not_eq_true', Bool.not_eq_false', decide_eq_true_eq, decide_eq_false_iff_not, beq_iff_eq, beq_eq_false_iff_ne, bne_iff_ne, bne_eq_false_iff_eq, ne_eq, inI64, List.length_append] at *) <;> omega))
    all_goals ((first | refine end_retE ?_ | refine end_normE ?_); simp only [fin, go_sem])
    all_goals exact LeA.refl _
theorem size_pc2 {ns : List Int} {num : Int} : PC Try.prog 75 [.sl false 1 (ints .i64 ns), .lit (.int .i64 num)] (.lit (.int .i64 (if ns = [] then num else ns.getD 0 0))) := by
  rcases ns with _ | ⟨a, t⟩
  · skip
    refine pc_ofR F1_ok mixed (fun _ => [0, 1, 4, 7]) (rs := [.tmp 4]) Try.func75 rfl (by kernel_rfl) (by kernel_rfl) (Nat.le_of_ble_eq_true rfl) ?_
    simp only [initF_cons, initF_nil, Nat.reduceAdd]
    refine t_name fun KF => ?_
    unfold F1
    repeat' (first
     | (with_reducible first | refine t_seq fun K => ?_ | refine t_block ?_ | refine t_scope ?_ | refine t_label ?_ | refine t_skip ?_ | refine t_exit ?_ | refine t_ret ?_ | refine t_k ?_ | refine t_gF ?_ | exact kp_nil | exact Kp.refl _ | exact kp_to | refine kp_cons ?_ | refine kp_arr ?_ | refine kp_app ?_ | refine t_p ?_ | refine t_br (fun hc => ?_) fun hc => ?_)
     | ((with_reducible first | refine t_kE ?_ | refine t_kD ?_ | refine t_gS ?_ | refine t_kL ?_ | refine t_kLF ?_ ?_ | refine t_region fun K => ?_ | refine t_cond fun A B => ?_ | refine t_draw (by kernel_rfl) fun K => ?_); simp only [go_sem, geff])
     | ((with_reducible refine kp_skip ?_ ?_); rfl) | simp only [thenQ, blockQ, scopeQ, Nat.reduceEqDiff, reduceIte] | (with_reducible first | refine And.intro ?_ ?_ | intro vr))
    all_goals try (first | (with_reducible assumption) | (intros; (try simp only [Bool.and_eq_true, Bool.or_eq_true, Bool.or_eq_false_iff, Bool.not_eq_true', Bool.not_eq_false', decide_eq_true_eq, decide_eq_false_iff_not, beq_iff_eq, beq_eq_false_iff_ne, bne_iff_ne, bne_eq_false_iff_eq, ne_eq, inI64, List.length_append] at *) <;> omega))
    all_goals ((first | refine end_retE ?_ | refine end_normE ?_); simp only [fin, go_sem])
    all_goals exact LeA.refl _
  · have h : decide (((a :: t).length : Int) > 0) = true := decide_eq_true (by simp only [List.length_cons]; omega)
    refine pc_ofR F1_ok mixed (fun _ => [0, 1, 4, 7]) (rs := [.tmp 4]) Try.func75 rfl (by kernel_rfl) (by kernel_rfl) (Nat.le_of_ble_eq_true rfl) ?_
    simp only [initF_cons, initF_nil, Nat.reduceAdd]
    refine t_name fun KF => ?_
    unfold F1
    repeat' (first
     | (with_reducible first | refine t_seq fun K => ?_ | refine t_block ?_ | refine t_scope ?_ | refine t_label ?_ | refine t_skip ?_ | refine t_exit ?_ | refine t_ret ?_ | refine t_k ?_ | refine t_gF ?_ | exact kp_nil | exact Kp.refl _ | exact kp_to | refine kp_cons ?_ | refine kp_arr ?_ | refine kp_app ?_ | refine t_p ?_ | refine t_br (fun hc => ?_) fun hc => ?_)
     | ((with_reducible first | refine t_kE ?_ | refine t_kD ?_ | refine t_gS ?_ | refine t_kL ?_ | refine t_kLF ?_ ?_ | refine t_region fun K => ?_ | refine t_cond fun A B => ?_ | refine t_draw (by kernel_rfl) fun K => ?_); simp only [go_sem, geff, h])
     | ((with_reducible refine kp_skip ?_ ?_); rfl) | simp only [thenQ, blockQ, scopeQ, Nat.reduceEqDiff, reduceIte] | (with_reducible first | refine And.intro ?_ ?_ | intro vr))
    all_goals try (first | (with_reducible assumption) | (intros; (try simp only [Bool.and_eq_true, Bool.or_eq_true, Bool.or_eq_false_iff, Bool.not_eq_true', Bool.not_eq_false', decide_eq_true_eq, decide_eq_false_iff_not, beq_iff_eq, beq_eq_false_iff_ne, bne_iff_ne, bne_eq_false_iff_eq, ne_eq, inI64, List.length_append] at *) <;> omega))
    all_goals ((first | refine end_retE ?_ | refine end_normE ?_); simp only [fin, go_sem])
    all_goals exact LeA.refl _
noncomputable def con75 : PCon Try.prog where
  f := 75
  c := fun
    | [xns, .lit (.int .i64 num)] => match slK .i64 xns with | some ns => some (True, .lit (.int .i64 (if ns = [] then num else ns.getD 0 0))) | _ => none
    | _ => none
  ok := by
    intro args p r hc hp
    split at hc
    · split at hc
      · rename_i hns
        cases hc
        exact PC.weak size_pc2 ⟨slK_le hns, LeA.refl _, trivial⟩
      · cases hc
    · cases hc
  fk := fk75
theorem con75_f : con75.f = 75 := rfl
theorem con75_c {xns : AV} {num : Int} : con75.c [xns, .lit (.int .i64 num)] = match slK .i64 xns with | some ns => some (True, .lit (.int .i64 (if ns = [] then num else ns.getD 0 0))) | _ => none := rfl
/-- Ranks with a boolean. -/
def rkV (r : List Int × Bool) : AV := .tup [.sl false 1 (ints .i64 r.1), .lit (.bool r.2)]
theorem rkV_def {r : List Int × Bool} : rkV r = .tup [.sl false 1 (ints .i64 r.1), .lit (.bool r.2)] := rfl
theorem rk_of {x : AV} {n : Bool} {l : List Int} {r : List Int × Bool} (h : slK .i64 x = some l) (e : r = (l, n)) : LeA (.tup [x, .lit (.bool n)]) (rkV r) := by
  subst e; exact LeA.tup ⟨slK_le h, LeA.refl _, trivial⟩
def ranksI (op : ByteArray) (n : Int) : List Int × Bool := if (findS op n).2 = false ∨ ((findS op n).1.ranks.length : Int) ≠ n then ([], false) else ((findS op n).1.ranks, true)
set_option maxHeartbeats 2000000 in
theorem ranks_pc {op : ByteArray} {n : Int} (hn : n ≤ 1000000) : PC Try.prog 50 [.lit (.string op), .lit (.int .i64 n)] (rkV (ranksI op n)) := by
  generalize hR : ranksI op n = R
  unfold ranksI at hR
  generalize hF : findS op n = r at hR
  obtain ⟨⟨s, b, rk, o, p⟩, ok⟩ := r
  rcases o with _ | g1 <;> rcases p with _ | g2
  all_goals simp only at hR
  · skip
    refine pc_ofR F6_ok mixed (fun _ => [0, 1, 4, 5, 6, 7, 22]) (rs := [.tmp 4, .tmp 5]) Try.func50 rfl (by kernel_rfl) (by kernel_rfl) (Nat.le_of_ble_eq_true rfl) ?_
    simp only [initF_cons, initF_nil, Nat.reduceAdd]
    refine t_name fun KF => ?_
    unfold F6
    repeat' (first
      | with_reducible refine t_seq fun K => ?_
      | with_reducible refine t_block ?_
      | with_reducible refine t_scope ?_
      | with_reducible refine t_label ?_
      | with_reducible refine t_skip ?_
      | with_reducible refine t_exit ?_
      | with_reducible refine t_ret ?_
      | with_reducible refine t_k ?_
      | (with_reducible refine t_gF ?_)
      | ((first | with_reducible refine t_kE ?_ | with_reducible refine t_kD ?_ | with_reducible refine t_gS ?_ | with_reducible refine t_kL ?_ | (with_reducible refine t_kLE ?_ ?_; rotate_left) | with_reducible refine t_region fun K => ?_ | with_reducible refine t_draw (by kernel_rfl) fun K => ?_); simp only [go_sem, geff_true, geff_false, con86_f, con86_c, hF, eV_def, entV_def, fnV_none, fnV_some])
      | (with_reducible exact kp_nil)
      | (with_reducible exact Kp.refl _)
      | (with_reducible exact kp_to)
      | (with_reducible refine kp_cons ?_)
      | (with_reducible refine kp_arr ?_)
      | (with_reducible refine kp_app ?_)
      | ((with_reducible refine kp_skip ?_ ?_); rfl)
      | ((with_reducible refine t_cond fun A B => ?_); simp only [go_sem, geff_true, geff_false, con86_f, con86_c, hF, eV_def, entV_def, fnV_none, fnV_some]; first | (with_reducible refine A.h ?_) | (with_reducible refine B.h ?_) | (refine And.intro (fun hc => A.h ?_) (fun hc => B.h ?_)))
      | ((with_reducible refine t_geffS (fun hg => ?_) (fun hg => ?_)) <;> ((try simp only [Bool.not_eq_true', Bool.not_eq_false', Bool.and_eq_true, Bool.or_eq_false_iff] at hg); simp only [hg, go_sem, geff_true, geff_false, con86_f, con86_c, hF, eV_def, entV_def, fnV_none, fnV_some]))
      | simp only [thenQ_n, thenQ_r, thenQ_e, blockQ_n, blockQ_r, blockQ_e, scopeQ_n, scopeQ_r, scopeQ_e, Nat.reduceEqDiff, reduceIte]
      | (with_reducible refine And.intro ?_ ?_)
      | with_reducible intro vr)
    all_goals try (first | (with_reducible assumption) | (intros; (try simp only [Bool.and_eq_true, Bool.or_eq_true, Bool.or_eq_false_iff, Bool.not_eq_true', Bool.not_eq_false', decide_eq_true_eq, decide_eq_false_iff_not, beq_iff_eq, beq_eq_false_iff_ne, bne_iff_ne, bne_eq_false_iff_eq, ne_eq, inI64, List.length_append] at *) <;> omega))
    all_goals ((first | refine end_retE ?_ | refine end_normE ?_); simp only [fin, go_sem])
    all_goals refine rk_of (by first | exact slK_sl | rfl) ?_
    all_goals rw [← hR]
    all_goals simp_all
  · skip
    refine pc_ofR F6_ok mixed (fun _ => [0, 1, 4, 5, 6, 7, 22]) (rs := [.tmp 4, .tmp 5]) Try.func50 rfl (by kernel_rfl) (by kernel_rfl) (Nat.le_of_ble_eq_true rfl) ?_
    simp only [initF_cons, initF_nil, Nat.reduceAdd]
    refine t_name fun KF => ?_
    unfold F6
    repeat' (first
      | with_reducible refine t_seq fun K => ?_
      | with_reducible refine t_block ?_
      | with_reducible refine t_scope ?_
      | with_reducible refine t_label ?_
      | with_reducible refine t_skip ?_
      | with_reducible refine t_exit ?_
      | with_reducible refine t_ret ?_
      | with_reducible refine t_k ?_
      | (with_reducible refine t_gF ?_)
      | ((first | with_reducible refine t_kE ?_ | with_reducible refine t_kD ?_ | with_reducible refine t_gS ?_ | with_reducible refine t_kL ?_ | (with_reducible refine t_kLE ?_ ?_; rotate_left) | with_reducible refine t_region fun K => ?_ | with_reducible refine t_draw (by kernel_rfl) fun K => ?_); simp only [go_sem, geff_true, geff_false, con86_f, con86_c, hF, eV_def, entV_def, fnV_none, fnV_some])
      | (with_reducible exact kp_nil)
      | (with_reducible exact Kp.refl _)
      | (with_reducible exact kp_to)
      | (with_reducible refine kp_cons ?_)
      | (with_reducible refine kp_arr ?_)
      | (with_reducible refine kp_app ?_)
      | ((with_reducible refine kp_skip ?_ ?_); rfl)
      | ((with_reducible refine t_cond fun A B => ?_); simp only [go_sem, geff_true, geff_false, con86_f, con86_c, hF, eV_def, entV_def, fnV_none, fnV_some]; first | (with_reducible refine A.h ?_) | (with_reducible refine B.h ?_) | (refine And.intro (fun hc => A.h ?_) (fun hc => B.h ?_)))
      | ((with_reducible refine t_geffS (fun hg => ?_) (fun hg => ?_)) <;> ((try simp only [Bool.not_eq_true', Bool.not_eq_false', Bool.and_eq_true, Bool.or_eq_false_iff] at hg); simp only [hg, go_sem, geff_true, geff_false, con86_f, con86_c, hF, eV_def, entV_def, fnV_none, fnV_some]))
      | simp only [thenQ_n, thenQ_r, thenQ_e, blockQ_n, blockQ_r, blockQ_e, scopeQ_n, scopeQ_r, scopeQ_e, Nat.reduceEqDiff, reduceIte]
      | (with_reducible refine And.intro ?_ ?_)
      | with_reducible intro vr)
    all_goals try (first | (with_reducible assumption) | (intros; (try simp only [Bool.and_eq_true, Bool.or_eq_true, Bool.or_eq_false_iff, Bool.not_eq_true', Bool.not_eq_false', decide_eq_true_eq, decide_eq_false_iff_not, beq_iff_eq, beq_eq_false_iff_ne, bne_iff_ne, bne_eq_false_iff_eq, ne_eq, inI64, List.length_append] at *) <;> omega))
    all_goals ((first | refine end_retE ?_ | refine end_normE ?_); simp only [fin, go_sem])
    all_goals refine rk_of (by first | exact slK_sl | rfl) ?_
    all_goals rw [← hR]
    all_goals simp_all
  · skip
    refine pc_ofR F6_ok mixed (fun _ => [0, 1, 4, 5, 6, 7, 22]) (rs := [.tmp 4, .tmp 5]) Try.func50 rfl (by kernel_rfl) (by kernel_rfl) (Nat.le_of_ble_eq_true rfl) ?_
    simp only [initF_cons, initF_nil, Nat.reduceAdd]
    refine t_name fun KF => ?_
    unfold F6
    repeat' (first
      | with_reducible refine t_seq fun K => ?_
      | with_reducible refine t_block ?_
      | with_reducible refine t_scope ?_
      | with_reducible refine t_label ?_
      | with_reducible refine t_skip ?_
      | with_reducible refine t_exit ?_
      | with_reducible refine t_ret ?_
      | with_reducible refine t_k ?_
      | (with_reducible refine t_gF ?_)
      | ((first | with_reducible refine t_kE ?_ | with_reducible refine t_kD ?_ | with_reducible refine t_gS ?_ | with_reducible refine t_kL ?_ | (with_reducible refine t_kLE ?_ ?_; rotate_left) | with_reducible refine t_region fun K => ?_ | with_reducible refine t_draw (by kernel_rfl) fun K => ?_); simp only [go_sem, geff_true, geff_false, con86_f, con86_c, hF, eV_def, entV_def, fnV_none, fnV_some])
      | (with_reducible exact kp_nil)
      | (with_reducible exact Kp.refl _)
      | (with_reducible exact kp_to)
      | (with_reducible refine kp_cons ?_)
      | (with_reducible refine kp_arr ?_)
      | (with_reducible refine kp_app ?_)
      | ((with_reducible refine kp_skip ?_ ?_); rfl)
      | ((with_reducible refine t_cond fun A B => ?_); simp only [go_sem, geff_true, geff_false, con86_f, con86_c, hF, eV_def, entV_def, fnV_none, fnV_some]; first | (with_reducible refine A.h ?_) | (with_reducible refine B.h ?_) | (refine And.intro (fun hc => A.h ?_) (fun hc => B.h ?_)))
      | ((with_reducible refine t_geffS (fun hg => ?_) (fun hg => ?_)) <;> ((try simp only [Bool.not_eq_true', Bool.not_eq_false', Bool.and_eq_true, Bool.or_eq_false_iff] at hg); simp only [hg, go_sem, geff_true, geff_false, con86_f, con86_c, hF, eV_def, entV_def, fnV_none, fnV_some]))
      | simp only [thenQ_n, thenQ_r, thenQ_e, blockQ_n, blockQ_r, blockQ_e, scopeQ_n, scopeQ_r, scopeQ_e, Nat.reduceEqDiff, reduceIte]
      | (with_reducible refine And.intro ?_ ?_)
      | with_reducible intro vr)
    all_goals try (first | (with_reducible assumption) | (intros; (try simp only [Bool.and_eq_true, Bool.or_eq_true, Bool.or_eq_false_iff, Bool.not_eq_true', Bool.not_eq_false', decide_eq_true_eq, decide_eq_false_iff_not, beq_iff_eq, beq_eq_false_iff_ne, bne_iff_ne, bne_eq_false_iff_eq, ne_eq, inI64, List.length_append] at *) <;> omega))
    all_goals ((first | refine end_retE ?_ | refine end_normE ?_); simp only [fin, go_sem])
    all_goals refine rk_of (by first | exact slK_sl | rfl) ?_
    all_goals rw [← hR]
    all_goals simp_all
  · skip
    refine pc_ofR F6_ok mixed (fun _ => [0, 1, 4, 5, 6, 7, 22]) (rs := [.tmp 4, .tmp 5]) Try.func50 rfl (by kernel_rfl) (by kernel_rfl) (Nat.le_of_ble_eq_true rfl) ?_
    simp only [initF_cons, initF_nil, Nat.reduceAdd]
    refine t_name fun KF => ?_
    unfold F6
    repeat' (first
      | with_reducible refine t_seq fun K => ?_
      | with_reducible refine t_block ?_
      | with_reducible refine t_scope ?_
      | with_reducible refine t_label ?_
      | with_reducible refine t_skip ?_
      | with_reducible refine t_exit ?_
      | with_reducible refine t_ret ?_
      | with_reducible refine t_k ?_
      | (with_reducible refine t_gF ?_)
      | ((first | with_reducible refine t_kE ?_ | with_reducible refine t_kD ?_ | with_reducible refine t_gS ?_ | with_reducible refine t_kL ?_ | (with_reducible refine t_kLE ?_ ?_; rotate_left) | with_reducible refine t_region fun K => ?_ | with_reducible refine t_draw (by kernel_rfl) fun K => ?_); simp only [go_sem, geff_true, geff_false, con86_f, con86_c, hF, eV_def, entV_def, fnV_none, fnV_some])
      | (with_reducible exact kp_nil)
      | (with_reducible exact Kp.refl _)
      | (with_reducible exact kp_to)
      | (with_reducible refine kp_cons ?_)
      | (with_reducible refine kp_arr ?_)
      | (with_reducible refine kp_app ?_)
      | ((with_reducible refine kp_skip ?_ ?_); rfl)
      | ((with_reducible refine t_cond fun A B => ?_); simp only [go_sem, geff_true, geff_false, con86_f, con86_c, hF, eV_def, entV_def, fnV_none, fnV_some]; first | (with_reducible refine A.h ?_) | (with_reducible refine B.h ?_) | (refine And.intro (fun hc => A.h ?_) (fun hc => B.h ?_)))
      | ((with_reducible refine t_geffS (fun hg => ?_) (fun hg => ?_)) <;> ((try simp only [Bool.not_eq_true', Bool.not_eq_false', Bool.and_eq_true, Bool.or_eq_false_iff] at hg); simp only [hg, go_sem, geff_true, geff_false, con86_f, con86_c, hF, eV_def, entV_def, fnV_none, fnV_some]))
      | simp only [thenQ_n, thenQ_r, thenQ_e, blockQ_n, blockQ_r, blockQ_e, scopeQ_n, scopeQ_r, scopeQ_e, Nat.reduceEqDiff, reduceIte]
      | (with_reducible refine And.intro ?_ ?_)
      | with_reducible intro vr)
    all_goals try (first | (with_reducible assumption) | (intros; (try simp only [Bool.and_eq_true, Bool.or_eq_true, Bool.or_eq_false_iff, Bool.not_eq_true', Bool.not_eq_false', decide_eq_true_eq, decide_eq_false_iff_not, beq_iff_eq, beq_eq_false_iff_ne, bne_iff_ne, bne_eq_false_iff_eq, ne_eq, inI64, List.length_append] at *) <;> omega))
    all_goals ((first | refine end_retE ?_ | refine end_normE ?_); simp only [fin, go_sem])
    all_goals refine rk_of (by first | exact slK_sl | rfl) ?_
    all_goals rw [← hR]
    all_goals simp_all
noncomputable def con50 : PCon Try.prog where
  f := 50
  c := fun
    | [.lit (.string op), .lit (.int .i64 n)] => some (n ≤ 1000000, rkV (ranksI op n))
    | _ => none
  ok := by
    intro args p r hc hp
    split at hc
    · cases hc; exact (ranks_pc hp)
    · cases hc
  fk := fk50
theorem con50_f : con50.f = 50 := rfl
theorem con50_c {op : ByteArray} {n : Int} : con50.c [.lit (.string op), .lit (.int .i64 n)] = some (n ≤ 1000000, rkV (ranksI op n)) := rfl
end Go.Proofs.Ytjlcbojpiieafaa

/- The dimensions of a result (structure). -/
namespace Go.Proofs.Ytjlcbojpiieafaa
open Go Go.Fw

theorem size_any {l : List Int} : PC Try.prog 65 [.sl false 1 (ints .i64 l)] (szV (sizeS l)) := by
  by_cases h : l.length ≤ 1000000
  · exact size_pc h
  · have h1 : decide ((l.length : Int) > 6) = true := decide_eq_true (by omega)
    have h2 : sizeS l = (0, 13) := by unfold sizeS; rw [if_pos (by omega)]
    rw [h2]
    refine pc_ofR F1_ok mixed (fun _ => [0, 2, 3, 5, 6, 8, 11, 12, 13, 14, 15, 23, 26, 27, 28, 29, 30, 37]) (rs := [.tmp 2, .tmp 3]) Try.func65 rfl (by kernel_rfl) (by kernel_rfl) (Nat.le_of_ble_eq_true rfl) ?_
    simp only [initF_cons, initF_nil, Nat.reduceAdd]
    refine t_name fun KF => ?_
    unfold F1
    repeat' (first
     | (with_reducible first | refine t_seq fun K => ?_ | refine t_block ?_ | refine t_scope ?_ | refine t_label ?_ | refine t_skip ?_ | refine t_exit ?_ | refine t_ret ?_ | refine t_k ?_ | refine t_gF ?_ | exact kp_nil | exact Kp.refl _ | exact kp_to | refine kp_cons ?_ | refine kp_arr ?_ | refine kp_app ?_ | refine t_p ?_ | refine t_br (fun hc => ?_) fun hc => ?_)
     | ((with_reducible first | refine t_kE ?_ | refine t_kD ?_ | refine t_gS ?_ | refine t_kL ?_ | refine t_kLF ?_ ?_ | refine t_region fun K => ?_ | refine t_cond fun A B => ?_ | refine t_draw (by kernel_rfl) fun K => ?_); simp only [go_sem, geff, h1])
     | ((with_reducible refine kp_skip ?_ ?_); rfl) | simp only [thenQ, blockQ, scopeQ, Nat.reduceEqDiff, reduceIte] | (with_reducible first | refine And.intro ?_ ?_ | intro vr))
    all_goals ((first | refine end_retE ?_ | refine end_normE ?_); simp only [fin, go_sem])
    exact LeA.refl _
noncomputable def con65b : PCon Try.prog := { con65 with
  c := fun
    | [x] => match slK .i64 x with | some l => some (True, szV (sizeS l)) | _ => none
    | _ => none
  ok := by
    intro args p r hc hp
    split at hc
    · split at hc
      · rename_i hl
        cases hc
        exact PC.weak size_any ⟨slK_le hl, trivial⟩
      · cases hc
    · cases hc }
theorem con65b_f : con65b.f = 65 := rfl
theorem con65b_c {x : AV} : con65b.c [x] = match slK .i64 x with | some l => some (True, szV (sizeS l)) | _ => none := rfl
def isD (g : Nat) : Bool := [103, 105, 108, 110, 112, 113, 115, 117, 119, 121, 101].contains g
def famD (f : FuncId) (args : List AV) : VR := if isD f = true then (match args with
  | [.lit (.int .i64 k), x] => match ilsOf x with
    | some ds => some (ds.length ≤ 1000000 ∧ dimsP f ds ∧ ilBd ds, dV (dimsS f k ds))
    | none => none
  | _ => none) else none
theorem famD_c {g : Nat} {k : Int} {x : AV} (h : isD g = true) : famD g [.lit (.int .i64 k), x] = match ilsOf x with
    | some ds => some (ds.length ≤ 1000000 ∧ dimsP g ds ∧ ilBd ds, dV (dimsS g k ds))
    | none => none := by unfold famD; rw [if_pos h]
theorem famD_no {g : Nat} {args : List AV} (h : isD g = false) : famD g args = none := by unfold famD; rw [h]; rfl
theorem famD_ok : ∀ f args p r, famD f args = some (p, r) → p → fok Try.prog f = true ∧ PC Try.prog f args r := by
  intro f args p r h hp
  unfold famD at h
  split at h
  · rename_i hf
    have hf' : f ∈ [103, 105, 108, 110, 112, 113, 115, 117, 119, 121, 101] := by simpa [isD] using hf
    split at h
    · split at h
      · rename_i hx
        cases h
        refine ⟨?_, PC.weak (dims_pc hf' hp.1 hp.2.1 hp.2.2) ⟨LeA.refl _, ilsOf_le hx, trivial⟩⟩
        simp only [List.mem_cons, List.not_mem_nil, or_false] at hf'
        rcases hf' with rfl | rfl | rfl | rfl | rfl | rfl | rfl | rfl | rfl | rfl | rfl
        · exact fk103
        · exact fk105
        · exact fk108
        · exact fk110
        · exact fk112
        · exact fk113
        · exact fk115
        · exact fk117
        · exact fk119
        · exact fk121
        · exact fk101
      · cases h
    · cases h
  · cases h
/-- Does a list of dimensions have other ranks? -/
def rkBad : List (List Int) → List Int → Bool
  | d :: ds, r :: rs => if (d.length : Int) ≠ r then true else rkBad ds rs
  | _, _ => false
def szErr : List (List Int) → Int
  | [] => 0
  | d :: ds => if (sizeS d).2 ≠ 0 then (sizeS d).2 else szErr ds
def sizeK (ns : List Int) (num : Int) : Int := if ns = [] then num else ns.getD 0 0
def dimsOf (e : Ent) (k : Int) (ds : List (List Int)) : List Int × Int :=
  if (dimsS (e.dims.getD 0) k ds).2 ≠ 0 then ([], (dimsS (e.dims.getD 0) k ds).2)
  else if (sizeS (dimsS (e.dims.getD 0) k ds).1).2 ≠ 0 then ([], (sizeS (dimsS (e.dims.getD 0) k ds).1).2)
  else ((dimsS (e.dims.getD 0) k ds).1, 0)
def dimsI (op : ByteArray) (ns : List Int) (num : Int) (ds : List (List Int)) : List Int × Int :=
  if (givenS op ns.length num ds.length).2 ≠ 0 then ([], (givenS op ns.length num ds.length).2)
  else if rkBad ds (givenS op ns.length num ds.length).1.ranks = true then ([], 13)
  else if szErr ds ≠ 0 then ([], szErr ds)
  else dimsOf (givenS op ns.length num ds.length).1 (sizeK ns num) ds
theorem findG_mem : ∀ {l : List Ent} {s : ByteArray} {e : Ent}, findG l s = some e → e ∈ l ∧ eqS e.op s = true
  | [], _, _, h => by cases h
  | a :: l, s, e, h => by
    unfold findG at h
    split at h
    · rename_i he; cases h; exact ⟨by simp, he⟩
    · exact ⟨by simp [(findG_mem h).1], (findG_mem h).2⟩
theorem given_ok {op : ByteArray} {ns num n : Int} {e : Ent} (h : givenS op ns num n = (e, 0)) : (e ∈ ents ∨ e = packE n) ∧ (e.ranks.length : Int) = n ∧ ns = wantS e ∧ (num = 0 ∨ eqS op n_chunk = true) ∧ eqS e.op op = true ∧ findS op n = (e, true) := by
  unfold givenS at h
  split at h
  · cases h
  rename_i h1
  split at h
  · cases h
  rename_i h2
  have he : (findS op n).1 = e := by injection h
  rw [he] at h2
  have h3 : findS op n = (e, true) := Prod.ext he (by simpa using h1)
  refine ⟨?_, by omega, by omega, ?_, ?_, h3⟩
  · unfold findS at h3
    split at h3
    · right; injection h3 with a _; exact a.symm
    · unfold foundS at h3
      split at h3
      · rename_i hg; injection h3 with a _; subst a; exact .inl (findG_mem hg).1
      · cases h3
  · by_cases hn : num = 0
    · exact .inl hn
    · right
      by_cases hc : eqS op n_chunk = true
      · exact hc
      · exact absurd (.inr (.inr ⟨hn, by simpa using hc⟩)) h2
  · unfold findS at h3
    split at h3
    · rename_i hp; injection h3 with a _; subst a; unfold packE; rw [eqS_iff.1 hp]; exact eqS_refl _
    · unfold foundS at h3
      split at h3
      · rename_i hg; injection h3 with a _; subst a; exact (findG_mem hg).2
      · cases h3
theorem dims_ok {e : Ent} {ds : List (List Int)} (he : e ∈ ents ∨ e = packE ds.length) (hl : (e.ranks.length : Int) = ds.length) (hr : rkBad ds e.ranks = false) : ∃ g, e.dims = some g ∧ isD g = true ∧ dimsP g ds := by
  rcases he with he | rfl
  · simp only [ents, List.mem_cons, List.not_mem_nil, or_false] at he
    rcases he with rfl | rfl | rfl | rfl | rfl | rfl | rfl | rfl | rfl | rfl | rfl | rfl <;> refine ⟨_, rfl, rfl, ?_⟩ <;> simp only [dimsP, List.length_cons, List.length_nil] at hl ⊢
    all_goals (first | trivial | (match ds, hl, hr with
      | [], hl, hr => simp at hl
      | [a], hl, hr => simp [rkBad] at hl hr ⊢ <;> omega
      | [a, b], hl, hr => simp [rkBad] at hl hr ⊢ <;> omega
      | [a, b, c], hl, hr => simp [rkBad] at hl hr ⊢ <;> omega
      | _ :: _ :: _ :: _ :: _, hl, hr => simp only [List.length_cons] at hl; omega))
  · exact ⟨101, rfl, rfl, trivial⟩
theorem ofSz {ds : List (List Int)} (h : szErr ds = 0) : ilBd ds := by
  induction ds with
  | nil => intro d hd; cases hd
  | cons a t ih =>
    unfold szErr at h
    split at h
    · rename_i hne; exact absurd h hne
    · rename_i hz
      intro d hd
      rcases List.mem_cons.1 hd with rfl | hd
      · exact (sizeS_ok (d := d) (n := (sizeS d).1) (Prod.ext rfl (by simpa using hz))).2.1
      · exact ih h d hd
end Go.Proofs.Ytjlcbojpiieafaa

/- The dimensions of a result: the walk. -/
namespace Go.Proofs.Ytjlcbojpiieafaa
open Go Go.Fw

theorem no65 : famD 65 = fun _ => none := by funext a; exact famD_no rfl
theorem no61 : famD 61 = fun _ => none := by funext a; exact famD_no rfl
theorem no72 : famD 72 = fun _ => none := by funext a; exact famD_no rfl
theorem no75 : famD 75 = fun _ => none := by funext a; exact famD_no rfl
noncomputable def F7 : Env := envM (P := Try.prog) famD jk2 zer (fun _ => false) (fun _ => false) [con65b, con61, con72, con75] []
theorem F7_ok : EnvOk Try.prog F7 := envMOk zer_ok famD_ok
theorem sizeK_def {ns : List Int} {num : Int} : (if ns = [] then num else ns.getD 0 0) = sizeK ns num := rfl
set_option maxRecDepth 20000 in
set_option maxHeartbeats 8000000 in
theorem dimsI_pc {op : ByteArray} {ns : List Int} {num : Int} {ds : List (List Int)} (hn : ds.length ≤ 1000000) : PC Try.prog 43 [.lit (.string op), .sl false 1 (ints .i64 ns), .lit (.int .i64 num), .sl false 1 (ils ds)] (dV (dimsI op ns num ds)) := by
  generalize hR : dimsI op ns num ds = R
  unfold dimsI at hR
  generalize hG : givenS op ns.length num ds.length = r at hR
  obtain ⟨e, er⟩ := r
  simp only at hR
  by_cases h0 : er = 0
  · subst h0
    rw [if_neg (by simp)] at hR
    obtain ⟨he, hl, -, -, -, -⟩ := given_ok hG
    have hdo := dims_ok he hl
    have hsz : (sizeS (dimsS (e.dims.getD 0) (sizeK ns num) ds).1).2 = 0 → (dimsS (e.dims.getD 0) (sizeK ns num) ds).1.length ≤ 1000000 := fun h => by
      have := (sizeS_ok (n := (sizeS (dimsS (e.dims.getD 0) (sizeK ns num) ds).1).1) (Prod.ext rfl h)).1
      omega
    obtain ⟨s, b, rk, o, p⟩ := e
    simp only at hl hdo hR
    unfold dimsOf at hR
    simp only at hR hsz
    rcases p with _ | g2
    · skip
      refine pc_ofR F7_ok mixed (fun _ => [0, 1, 2, 3, 8, 9, 10, 11, 12, 13, 15, 17, 18, 20, 31, 33, 34, 35, 36, 47, 49, 50, 51, 52, 61, 75, 83]) (rs := [.tmp 8, .tmp 9]) Try.func43 rfl (by kernel_rfl) (by kernel_rfl) (Nat.le_of_ble_eq_true rfl) ?_
      simp only [initF_cons, initF_nil, Nat.reduceAdd]
      refine t_name fun KF => ?_
      unfold F7
      repeat' (first
       | (with_reducible first | refine t_seq fun K => ?_ | refine t_block ?_ | refine t_scope ?_ | refine t_label ?_ | refine t_skip ?_ | refine t_exit ?_ | refine t_ret ?_ | refine t_k ?_ | refine t_gF ?_ | exact kp_nil | exact Kp.refl _ | exact kp_to | refine kp_cons ?_ | refine kp_arr ?_ | refine kp_app ?_ | refine t_p ?_ | refine t_br (fun hc => ?_) fun hc => ?_)
       | ((with_reducible first | refine t_kE ?_ | refine t_kD ?_ | refine t_gS ?_ | refine t_kL ?_ | refine t_kLF ?_ ?_ | refine t_region fun K => ?_ | refine t_cond fun A B => ?_ | refine t_draw (by kernel_rfl) fun K => ?_); simp only [go_sem, geff, con65b_f, con61_f, con72_f, con75_f, con65b_c, con61_c, con72_c, con75_c, no65, no61, no72, no75, ils_length, slK_sl, hG, gV_def, entV_def, szV_def, fnV_none, fnV_some, sizeK_def])
       | ((with_reducible refine kp_skip ?_ ?_); rfl) | simp only [thenQ, blockQ, scopeQ, Nat.reduceEqDiff, reduceIte] | (with_reducible first | refine And.intro ?_ ?_ | intro vr))
      all_goals try (first | (with_reducible assumption) | (intros; (try simp only [Bool.and_eq_true, Bool.or_eq_true, Bool.or_eq_false_iff, Bool.not_eq_true', Bool.not_eq_false', decide_eq_true_eq, decide_eq_false_iff_not, beq_iff_eq, beq_eq_false_iff_ne, bne_iff_ne, bne_eq_false_iff_eq, ne_eq, inI64, List.length_append] at *) <;> omega))
      refine t_loopF (ι := { i : Nat // i ≤ ds.length ∧ rkBad (ds.drop i) (rk.drop i) = rkBad ds rk }) (fun i => [(35, .lit (.int .i64 i.1))]) (fun i => [AObj.box 92 [.lit (.string s), .lit (.bool b), .sl false 1 (ints .i64 rk), fnV o, .lit .nilFunc]]) (fun i => ds.length - i.1) ⟨0, by omega, rfl⟩ ?_ ?_
      · simp only [updL_nil, updL_cons, delF_top, delF_upd, Nat.reduceEqDiff, reduceIte]
        refine Le.frameS (by first | rfl | (simp only [go_sem]; try rfl)) ?_
        repeat' (first | exact leF_top _ | exact (fun _ => LeR.refl _) | (with_reducible refine leF_sl ?_ ?_) | (refine leF_upd ?_ ?_))
        all_goals (first | exact LeR.top _ | exact LeR.refl _ | (refine LeR.of_eq ?_; (try simp only [go_sem]); try rfl) | ((try simp only [go_sem]); try rfl))
      rintro ⟨i, hi, hF⟩ K0
      rcases Nat.lt_or_ge i ds.length with hc | hc
      · rw [drop_getD [] hc, drop_getD 0 (show i < rk.length by omega), rkBad] at hF
        have g3 : decide ((i : Int) < (ds.length : Int)) = true := decide_eq_true (by omega)
        repeat' (first
         | (with_reducible first | refine t_seq fun K => ?_ | refine t_block ?_ | refine t_scope ?_ | refine t_label ?_ | refine t_skip ?_ | refine t_exit ?_ | refine t_ret ?_ | refine t_k ?_ | refine t_gF ?_ | exact kp_nil | exact Kp.refl _ | exact kp_to | refine kp_cons ?_ | refine kp_arr ?_ | refine kp_app ?_ | refine t_p ?_ | refine t_br (fun hc => ?_) fun hc => ?_)
         | ((with_reducible first | refine t_kE ?_ | refine t_kD ?_ | refine t_gS ?_ | refine t_kL ?_ | refine t_kLF ?_ ?_ | refine t_region fun K => ?_ | refine t_cond fun A B => ?_ | refine t_draw (by kernel_rfl) fun K => ?_); simp only [go_sem, geff, g3, Int.toNat_natCast, con65b_f, con61_f, con72_f, con75_f, con65b_c, con61_c, con72_c, con75_c, no65, no61, no72, no75, ils_length, slK_sl, hG, gV_def, entV_def, szV_def, fnV_none, fnV_some, sizeK_def])
         | ((with_reducible refine kp_skip ?_ ?_); rfl) | simp only [thenQ, blockQ, scopeQ, Nat.reduceEqDiff, reduceIte] | (with_reducible first | refine And.intro ?_ ?_ | intro vr))
        all_goals try (first | (with_reducible assumption) | (intros; (try simp only [Bool.and_eq_true, Bool.or_eq_true, Bool.or_eq_false_iff, Bool.not_eq_true', Bool.not_eq_false', decide_eq_true_eq, decide_eq_false_iff_not, beq_iff_eq, beq_eq_false_iff_ne, bne_iff_ne, bne_eq_false_iff_eq, ne_eq, inI64, List.length_append] at *) <;> omega))
        · skip
          all_goals ((first | refine end_retE ?_ | refine end_normE ?_); simp only [fin, go_sem])
          rw [if_pos (by simpa using hc)] at hF
          rw [if_pos hF.symm] at hR
          exact dv_of rfl hR.symm
        · skip
          refine ⟨⟨i + 1, by omega, by rw [← hF, if_neg (by simpa using hc)]⟩, by first | (simp only; omega) | omega, ?_⟩
          simp only [updL_nil, updL_cons, delF_top, delF_upd, Nat.reduceEqDiff, reduceIte]
          refine Le.frameS (by first | rfl | (simp only [go_sem]; try rfl)) ?_
          repeat' (first | exact leF_top _ | exact (fun _ => LeR.refl _) | (with_reducible refine leF_sl ?_ ?_) | (refine leF_upd ?_ ?_))
          all_goals (first | exact LeR.top _ | exact LeR.refl _ | (refine LeR.of_eq ?_; (try simp only [go_sem]); try rfl) | ((try simp only [go_sem]); try rfl))
      · have g3 : decide ((i : Int) < (ds.length : Int)) = false := decide_eq_false (by omega)
        rw [List.drop_eq_nil_of_le (by omega), rkBad] at hF
        · obtain ⟨g, rfl, hg, hdp⟩ := hdo hF.symm
          rw [if_neg (by rw [← hF]; simp)] at hR
          simp only [Option.getD_some] at hR hsz
          repeat' (first
           | (with_reducible first | refine t_seq fun K => ?_ | refine t_block ?_ | refine t_scope ?_ | refine t_label ?_ | refine t_skip ?_ | refine t_exit ?_ | refine t_ret ?_ | refine t_k ?_ | refine t_gF ?_ | exact kp_nil | exact Kp.refl _ | exact kp_to | refine kp_cons ?_ | refine kp_arr ?_ | refine kp_app ?_ | refine t_p ?_ | refine t_br (fun hc => ?_) fun hc => ?_)
           | ((with_reducible first | refine t_kE ?_ | refine t_kD ?_ | refine t_gS ?_ | refine t_kL ?_ | refine t_kLF ?_ ?_ | refine t_region fun K => ?_ | refine t_cond fun A B => ?_ | refine t_draw (by kernel_rfl) fun K => ?_); simp only [go_sem, geff, g3, Int.toNat_natCast, con65b_f, con61_f, con72_f, con75_f, con65b_c, con61_c, con72_c, con75_c, no65, no61, no72, no75, ils_length, slK_sl, hG, gV_def, entV_def, szV_def, fnV_none, fnV_some, sizeK_def])
           | ((with_reducible refine kp_skip ?_ ?_); rfl) | simp only [thenQ, blockQ, scopeQ, Nat.reduceEqDiff, reduceIte] | (with_reducible first | refine And.intro ?_ ?_ | intro vr))
          all_goals try (first | (with_reducible assumption) | (intros; (try simp only [Bool.and_eq_true, Bool.or_eq_true, Bool.or_eq_false_iff, Bool.not_eq_true', Bool.not_eq_false', decide_eq_true_eq, decide_eq_false_iff_not, beq_iff_eq, beq_eq_false_iff_ne, bne_iff_ne, bne_eq_false_iff_eq, ne_eq, inI64, List.length_append] at *) <;> omega))
          refine t_loopF (ι := { i : Nat // i ≤ ds.length ∧ szErr (ds.drop i) = szErr ds }) (fun i => [(51, .lit (.int .i64 i.1))]) (fun i => [AObj.box 92 [.lit (.string s), .lit (.bool b), .sl false 1 (ints .i64 rk), .fn (.func g) [] [], .lit .nilFunc]]) (fun i => ds.length - i.1) ⟨0, by omega, rfl⟩ ?_ ?_
          · simp only [updL_nil, updL_cons, delF_top, delF_upd, Nat.reduceEqDiff, reduceIte]
            refine Le.frameS (by first | rfl | (simp only [go_sem]; try rfl)) ?_
            repeat' (first | exact leF_top _ | exact (fun _ => LeR.refl _) | (with_reducible refine leF_sl ?_ ?_) | (refine leF_upd ?_ ?_))
            all_goals (first | exact LeR.top _ | exact LeR.refl _ | (refine LeR.of_eq ?_; (try simp only [go_sem]); try rfl) | ((try simp only [go_sem]); try rfl))
          rintro ⟨j, hj, hF2⟩ K1
          rcases Nat.lt_or_ge j ds.length with hc | hc
          · rw [drop_getD [] hc, szErr] at hF2
            have g4 : decide ((j : Int) < (ds.length : Int)) = true := decide_eq_true (by omega)
            repeat' (first
             | (with_reducible first | refine t_seq fun K => ?_ | refine t_block ?_ | refine t_scope ?_ | refine t_label ?_ | refine t_skip ?_ | refine t_exit ?_ | refine t_ret ?_ | refine t_k ?_ | refine t_gF ?_ | exact kp_nil | exact Kp.refl _ | exact kp_to | refine kp_cons ?_ | refine kp_arr ?_ | refine kp_app ?_ | refine t_p ?_ | refine t_br (fun hc => ?_) fun hc => ?_)
             | ((with_reducible first | refine t_kE ?_ | refine t_kD ?_ | refine t_gS ?_ | refine t_kL ?_ | refine t_kLF ?_ ?_ | refine t_region fun K => ?_ | refine t_cond fun A B => ?_ | refine t_draw (by kernel_rfl) fun K => ?_); simp only [go_sem, geff, g4, Int.toNat_natCast, con65b_f, con61_f, con72_f, con75_f, con65b_c, con61_c, con72_c, con75_c, no65, no61, no72, no75, ils_length, slK_sl, hG, gV_def, entV_def, szV_def, fnV_none, fnV_some, sizeK_def])
             | ((with_reducible refine kp_skip ?_ ?_); rfl) | simp only [thenQ, blockQ, scopeQ, Nat.reduceEqDiff, reduceIte] | (with_reducible first | refine And.intro ?_ ?_ | intro vr))
            all_goals try (first | (with_reducible assumption) | (intros; (try simp only [Bool.and_eq_true, Bool.or_eq_true, Bool.or_eq_false_iff, Bool.not_eq_true', Bool.not_eq_false', decide_eq_true_eq, decide_eq_false_iff_not, beq_iff_eq, beq_eq_false_iff_ne, bne_iff_ne, bne_eq_false_iff_eq, ne_eq, inI64, List.length_append] at *) <;> omega))
            · skip
              all_goals ((first | refine end_retE ?_ | refine end_normE ?_); simp only [fin, go_sem])
              rw [if_pos (by simpa using hc)] at hF2
              rw [if_pos (by rw [← hF2]; simpa using hc), ← hF2] at hR
              exact dv_of rfl hR.symm
            · skip
              refine ⟨⟨j + 1, by omega, by rw [← hF2, if_neg (by simpa using hc)]⟩, by first | (simp only; omega) | omega, ?_⟩
              simp only [updL_nil, updL_cons, delF_top, delF_upd, Nat.reduceEqDiff, reduceIte]
              refine Le.frameS (by first | rfl | (simp only [go_sem]; try rfl)) ?_
              repeat' (first | exact leF_top _ | exact (fun _ => LeR.refl _) | (with_reducible refine leF_sl ?_ ?_) | (refine leF_upd ?_ ?_))
              all_goals (first | exact LeR.top _ | exact LeR.refl _ | (refine LeR.of_eq ?_; (try simp only [go_sem]); try rfl) | ((try simp only [go_sem]); try rfl))
          · have g4 : decide ((j : Int) < (ds.length : Int)) = false := decide_eq_false (by omega)
            rw [List.drop_eq_nil_of_le (by omega), szErr] at hF2
            rw [if_neg (by rw [← hF2]; simp)] at hR
            have hbd := ofSz hF2.symm
            repeat' (first
             | (with_reducible first | refine t_seq fun K => ?_ | refine t_block ?_ | refine t_scope ?_ | refine t_label ?_ | refine t_skip ?_ | refine t_exit ?_ | refine t_ret ?_ | refine t_k ?_ | refine t_gF ?_ | exact kp_nil | exact Kp.refl _ | exact kp_to | refine kp_cons ?_ | refine kp_arr ?_ | refine kp_app ?_ | refine t_p ?_ | refine t_br (fun hc => ?_) fun hc => ?_)
             | ((with_reducible first | refine t_kE ?_ | refine t_kD ?_ | refine t_gS ?_ | refine t_kL ?_ | refine t_kLF ?_ ?_ | refine t_region fun K => ?_ | refine t_cond fun A B => ?_ | refine t_draw (by kernel_rfl) fun K => ?_); simp only [go_sem, geff, g4, Int.toNat_natCast, famD_c hg, ilsOf_sl, dV_def, con65b_f, con61_f, con72_f, con75_f, con65b_c, con61_c, con72_c, con75_c, no65, no61, no72, no75, ils_length, slK_sl, hG, gV_def, entV_def, szV_def, fnV_none, fnV_some, sizeK_def])
             | ((with_reducible refine kp_skip ?_ ?_); rfl) | simp only [thenQ, blockQ, scopeQ, Nat.reduceEqDiff, reduceIte] | (with_reducible first | refine And.intro ?_ ?_ | intro vr))
            all_goals try exact hdp
            all_goals try exact hbd
            all_goals try (exact hsz (by simpa using hc))
            all_goals try (first | (with_reducible assumption) | (intros; (try simp only [Bool.and_eq_true, Bool.or_eq_true, Bool.or_eq_false_iff, Bool.not_eq_true', Bool.not_eq_false', decide_eq_true_eq, decide_eq_false_iff_not, beq_iff_eq, beq_eq_false_iff_ne, bne_iff_ne, bne_eq_false_iff_eq, ne_eq, inI64, List.length_append] at *) <;> omega))
            all_goals ((first | refine end_retE ?_ | refine end_normE ?_); simp only [fin, go_sem])
            · rw [if_pos (by simpa using hc)] at hR
              exact dv_of (by first | exact slK_sl | rfl) hR.symm
            · rw [if_neg (by simp_all), if_pos (by simpa using hc)] at hR
              exact dv_of (by first | exact slK_sl | rfl) hR.symm
            · rw [if_neg (by simp_all), if_neg (by simpa using hc)] at hR
              exact dv_of (by first | exact slK_sl | rfl) hR.symm
        · intro _ _ _ _ h; cases h
    · skip
      refine pc_ofR F7_ok mixed (fun _ => [0, 1, 2, 3, 8, 9, 10, 11, 12, 13, 15, 17, 18, 20, 31, 33, 34, 35, 36, 47, 49, 50, 51, 52, 61, 75, 83]) (rs := [.tmp 8, .tmp 9]) Try.func43 rfl (by kernel_rfl) (by kernel_rfl) (Nat.le_of_ble_eq_true rfl) ?_
      simp only [initF_cons, initF_nil, Nat.reduceAdd]
      refine t_name fun KF => ?_
      unfold F7
      repeat' (first
       | (with_reducible first | refine t_seq fun K => ?_ | refine t_block ?_ | refine t_scope ?_ | refine t_label ?_ | refine t_skip ?_ | refine t_exit ?_ | refine t_ret ?_ | refine t_k ?_ | refine t_gF ?_ | exact kp_nil | exact Kp.refl _ | exact kp_to | refine kp_cons ?_ | refine kp_arr ?_ | refine kp_app ?_ | refine t_p ?_ | refine t_br (fun hc => ?_) fun hc => ?_)
       | ((with_reducible first | refine t_kE ?_ | refine t_kD ?_ | refine t_gS ?_ | refine t_kL ?_ | refine t_kLF ?_ ?_ | refine t_region fun K => ?_ | refine t_cond fun A B => ?_ | refine t_draw (by kernel_rfl) fun K => ?_); simp only [go_sem, geff, con65b_f, con61_f, con72_f, con75_f, con65b_c, con61_c, con72_c, con75_c, no65, no61, no72, no75, ils_length, slK_sl, hG, gV_def, entV_def, szV_def, fnV_none, fnV_some, sizeK_def])
       | ((with_reducible refine kp_skip ?_ ?_); rfl) | simp only [thenQ, blockQ, scopeQ, Nat.reduceEqDiff, reduceIte] | (with_reducible first | refine And.intro ?_ ?_ | intro vr))
      all_goals try (first | (with_reducible assumption) | (intros; (try simp only [Bool.and_eq_true, Bool.or_eq_true, Bool.or_eq_false_iff, Bool.not_eq_true', Bool.not_eq_false', decide_eq_true_eq, decide_eq_false_iff_not, beq_iff_eq, beq_eq_false_iff_ne, bne_iff_ne, bne_eq_false_iff_eq, ne_eq, inI64, List.length_append] at *) <;> omega))
      refine t_loopF (ι := { i : Nat // i ≤ ds.length ∧ rkBad (ds.drop i) (rk.drop i) = rkBad ds rk }) (fun i => [(35, .lit (.int .i64 i.1))]) (fun i => [AObj.box 92 [.lit (.string s), .lit (.bool b), .sl false 1 (ints .i64 rk), fnV o, .fn (.func g2) [] []]]) (fun i => ds.length - i.1) ⟨0, by omega, rfl⟩ ?_ ?_
      · simp only [updL_nil, updL_cons, delF_top, delF_upd, Nat.reduceEqDiff, reduceIte]
        refine Le.frameS (by first | rfl | (simp only [go_sem]; try rfl)) ?_
        repeat' (first | exact leF_top _ | exact (fun _ => LeR.refl _) | (with_reducible refine leF_sl ?_ ?_) | (refine leF_upd ?_ ?_))
        all_goals (first | exact LeR.top _ | exact LeR.refl _ | (refine LeR.of_eq ?_; (try simp only [go_sem]); try rfl) | ((try simp only [go_sem]); try rfl))
      rintro ⟨i, hi, hF⟩ K0
      rcases Nat.lt_or_ge i ds.length with hc | hc
      · rw [drop_getD [] hc, drop_getD 0 (show i < rk.length by omega), rkBad] at hF
        have g3 : decide ((i : Int) < (ds.length : Int)) = true := decide_eq_true (by omega)
        repeat' (first
         | (with_reducible first | refine t_seq fun K => ?_ | refine t_block ?_ | refine t_scope ?_ | refine t_label ?_ | refine t_skip ?_ | refine t_exit ?_ | refine t_ret ?_ | refine t_k ?_ | refine t_gF ?_ | exact kp_nil | exact Kp.refl _ | exact kp_to | refine kp_cons ?_ | refine kp_arr ?_ | refine kp_app ?_ | refine t_p ?_ | refine t_br (fun hc => ?_) fun hc => ?_)
         | ((with_reducible first | refine t_kE ?_ | refine t_kD ?_ | refine t_gS ?_ | refine t_kL ?_ | refine t_kLF ?_ ?_ | refine t_region fun K => ?_ | refine t_cond fun A B => ?_ | refine t_draw (by kernel_rfl) fun K => ?_); simp only [go_sem, geff, g3, Int.toNat_natCast, con65b_f, con61_f, con72_f, con75_f, con65b_c, con61_c, con72_c, con75_c, no65, no61, no72, no75, ils_length, slK_sl, hG, gV_def, entV_def, szV_def, fnV_none, fnV_some, sizeK_def])
         | ((with_reducible refine kp_skip ?_ ?_); rfl) | simp only [thenQ, blockQ, scopeQ, Nat.reduceEqDiff, reduceIte] | (with_reducible first | refine And.intro ?_ ?_ | intro vr))
        all_goals try (first | (with_reducible assumption) | (intros; (try simp only [Bool.and_eq_true, Bool.or_eq_true, Bool.or_eq_false_iff, Bool.not_eq_true', Bool.not_eq_false', decide_eq_true_eq, decide_eq_false_iff_not, beq_iff_eq, beq_eq_false_iff_ne, bne_iff_ne, bne_eq_false_iff_eq, ne_eq, inI64, List.length_append] at *) <;> omega))
        · skip
          all_goals ((first | refine end_retE ?_ | refine end_normE ?_); simp only [fin, go_sem])
          rw [if_pos (by simpa using hc)] at hF
          rw [if_pos hF.symm] at hR
          exact dv_of rfl hR.symm
        · skip
          refine ⟨⟨i + 1, by omega, by rw [← hF, if_neg (by simpa using hc)]⟩, by first | (simp only; omega) | omega, ?_⟩
          simp only [updL_nil, updL_cons, delF_top, delF_upd, Nat.reduceEqDiff, reduceIte]
          refine Le.frameS (by first | rfl | (simp only [go_sem]; try rfl)) ?_
          repeat' (first | exact leF_top _ | exact (fun _ => LeR.refl _) | (with_reducible refine leF_sl ?_ ?_) | (refine leF_upd ?_ ?_))
          all_goals (first | exact LeR.top _ | exact LeR.refl _ | (refine LeR.of_eq ?_; (try simp only [go_sem]); try rfl) | ((try simp only [go_sem]); try rfl))
      · have g3 : decide ((i : Int) < (ds.length : Int)) = false := decide_eq_false (by omega)
        rw [List.drop_eq_nil_of_le (by omega), rkBad] at hF
        · obtain ⟨g, rfl, hg, hdp⟩ := hdo hF.symm
          rw [if_neg (by rw [← hF]; simp)] at hR
          simp only [Option.getD_some] at hR hsz
          repeat' (first
           | (with_reducible first | refine t_seq fun K => ?_ | refine t_block ?_ | refine t_scope ?_ | refine t_label ?_ | refine t_skip ?_ | refine t_exit ?_ | refine t_ret ?_ | refine t_k ?_ | refine t_gF ?_ | exact kp_nil | exact Kp.refl _ | exact kp_to | refine kp_cons ?_ | refine kp_arr ?_ | refine kp_app ?_ | refine t_p ?_ | refine t_br (fun hc => ?_) fun hc => ?_)
           | ((with_reducible first | refine t_kE ?_ | refine t_kD ?_ | refine t_gS ?_ | refine t_kL ?_ | refine t_kLF ?_ ?_ | refine t_region fun K => ?_ | refine t_cond fun A B => ?_ | refine t_draw (by kernel_rfl) fun K => ?_); simp only [go_sem, geff, g3, Int.toNat_natCast, con65b_f, con61_f, con72_f, con75_f, con65b_c, con61_c, con72_c, con75_c, no65, no61, no72, no75, ils_length, slK_sl, hG, gV_def, entV_def, szV_def, fnV_none, fnV_some, sizeK_def])
           | ((with_reducible refine kp_skip ?_ ?_); rfl) | simp only [thenQ, blockQ, scopeQ, Nat.reduceEqDiff, reduceIte] | (with_reducible first | refine And.intro ?_ ?_ | intro vr))
          all_goals try (first | (with_reducible assumption) | (intros; (try simp only [Bool.and_eq_true, Bool.or_eq_true, Bool.or_eq_false_iff, Bool.not_eq_true', Bool.not_eq_false', decide_eq_true_eq, decide_eq_false_iff_not, beq_iff_eq, beq_eq_false_iff_ne, bne_iff_ne, bne_eq_false_iff_eq, ne_eq, inI64, List.length_append] at *) <;> omega))
          refine t_loopF (ι := { i : Nat // i ≤ ds.length ∧ szErr (ds.drop i) = szErr ds }) (fun i => [(51, .lit (.int .i64 i.1))]) (fun i => [AObj.box 92 [.lit (.string s), .lit (.bool b), .sl false 1 (ints .i64 rk), .fn (.func g) [] [], .fn (.func g2) [] []]]) (fun i => ds.length - i.1) ⟨0, by omega, rfl⟩ ?_ ?_
          · simp only [updL_nil, updL_cons, delF_top, delF_upd, Nat.reduceEqDiff, reduceIte]
            refine Le.frameS (by first | rfl | (simp only [go_sem]; try rfl)) ?_
            repeat' (first | exact leF_top _ | exact (fun _ => LeR.refl _) | (with_reducible refine leF_sl ?_ ?_) | (refine leF_upd ?_ ?_))
            all_goals (first | exact LeR.top _ | exact LeR.refl _ | (refine LeR.of_eq ?_; (try simp only [go_sem]); try rfl) | ((try simp only [go_sem]); try rfl))
          rintro ⟨j, hj, hF2⟩ K1
          rcases Nat.lt_or_ge j ds.length with hc | hc
          · rw [drop_getD [] hc, szErr] at hF2
            have g4 : decide ((j : Int) < (ds.length : Int)) = true := decide_eq_true (by omega)
            repeat' (first
             | (with_reducible first | refine t_seq fun K => ?_ | refine t_block ?_ | refine t_scope ?_ | refine t_label ?_ | refine t_skip ?_ | refine t_exit ?_ | refine t_ret ?_ | refine t_k ?_ | refine t_gF ?_ | exact kp_nil | exact Kp.refl _ | exact kp_to | refine kp_cons ?_ | refine kp_arr ?_ | refine kp_app ?_ | refine t_p ?_ | refine t_br (fun hc => ?_) fun hc => ?_)
             | ((with_reducible first | refine t_kE ?_ | refine t_kD ?_ | refine t_gS ?_ | refine t_kL ?_ | refine t_kLF ?_ ?_ | refine t_region fun K => ?_ | refine t_cond fun A B => ?_ | refine t_draw (by kernel_rfl) fun K => ?_); simp only [go_sem, geff, g4, Int.toNat_natCast, con65b_f, con61_f, con72_f, con75_f, con65b_c, con61_c, con72_c, con75_c, no65, no61, no72, no75, ils_length, slK_sl, hG, gV_def, entV_def, szV_def, fnV_none, fnV_some, sizeK_def])
             | ((with_reducible refine kp_skip ?_ ?_); rfl) | simp only [thenQ, blockQ, scopeQ, Nat.reduceEqDiff, reduceIte] | (with_reducible first | refine And.intro ?_ ?_ | intro vr))
            all_goals try (first | (with_reducible assumption) | (intros; (try simp only [Bool.and_eq_true, Bool.or_eq_true, Bool.or_eq_false_iff, Bool.not_eq_true', Bool.not_eq_false', decide_eq_true_eq, decide_eq_false_iff_not, beq_iff_eq, beq_eq_false_iff_ne, bne_iff_ne, bne_eq_false_iff_eq, ne_eq, inI64, List.length_append] at *) <;> omega))
            · skip
              all_goals ((first | refine end_retE ?_ | refine end_normE ?_); simp only [fin, go_sem])
              rw [if_pos (by simpa using hc)] at hF2
              rw [if_pos (by rw [← hF2]; simpa using hc), ← hF2] at hR
              exact dv_of rfl hR.symm
            · skip
              refine ⟨⟨j + 1, by omega, by rw [← hF2, if_neg (by simpa using hc)]⟩, by first | (simp only; omega) | omega, ?_⟩
              simp only [updL_nil, updL_cons, delF_top, delF_upd, Nat.reduceEqDiff, reduceIte]
              refine Le.frameS (by first | rfl | (simp only [go_sem]; try rfl)) ?_
              repeat' (first | exact leF_top _ | exact (fun _ => LeR.refl _) | (with_reducible refine leF_sl ?_ ?_) | (refine leF_upd ?_ ?_))
              all_goals (first | exact LeR.top _ | exact LeR.refl _ | (refine LeR.of_eq ?_; (try simp only [go_sem]); try rfl) | ((try simp only [go_sem]); try rfl))
          · have g4 : decide ((j : Int) < (ds.length : Int)) = false := decide_eq_false (by omega)
            rw [List.drop_eq_nil_of_le (by omega), szErr] at hF2
            rw [if_neg (by rw [← hF2]; simp)] at hR
            have hbd := ofSz hF2.symm
            repeat' (first
             | (with_reducible first | refine t_seq fun K => ?_ | refine t_block ?_ | refine t_scope ?_ | refine t_label ?_ | refine t_skip ?_ | refine t_exit ?_ | refine t_ret ?_ | refine t_k ?_ | refine t_gF ?_ | exact kp_nil | exact Kp.refl _ | exact kp_to | refine kp_cons ?_ | refine kp_arr ?_ | refine kp_app ?_ | refine t_p ?_ | refine t_br (fun hc => ?_) fun hc => ?_)
             | ((with_reducible first | refine t_kE ?_ | refine t_kD ?_ | refine t_gS ?_ | refine t_kL ?_ | refine t_kLF ?_ ?_ | refine t_region fun K => ?_ | refine t_cond fun A B => ?_ | refine t_draw (by kernel_rfl) fun K => ?_); simp only [go_sem, geff, g4, Int.toNat_natCast, famD_c hg, ilsOf_sl, dV_def, con65b_f, con61_f, con72_f, con75_f, con65b_c, con61_c, con72_c, con75_c, no65, no61, no72, no75, ils_length, slK_sl, hG, gV_def, entV_def, szV_def, fnV_none, fnV_some, sizeK_def])
             | ((with_reducible refine kp_skip ?_ ?_); rfl) | simp only [thenQ, blockQ, scopeQ, Nat.reduceEqDiff, reduceIte] | (with_reducible first | refine And.intro ?_ ?_ | intro vr))
            all_goals try exact hdp
            all_goals try exact hbd
            all_goals try (exact hsz (by simpa using hc))
            all_goals try (first | (with_reducible assumption) | (intros; (try simp only [Bool.and_eq_true, Bool.or_eq_true, Bool.or_eq_false_iff, Bool.not_eq_true', Bool.not_eq_false', decide_eq_true_eq, decide_eq_false_iff_not, beq_iff_eq, beq_eq_false_iff_ne, bne_iff_ne, bne_eq_false_iff_eq, ne_eq, inI64, List.length_append] at *) <;> omega))
            all_goals ((first | refine end_retE ?_ | refine end_normE ?_); simp only [fin, go_sem])
            · rw [if_pos (by simpa using hc)] at hR
              exact dv_of (by first | exact slK_sl | rfl) hR.symm
            · rw [if_neg (by simp_all), if_pos (by simpa using hc)] at hR
              exact dv_of (by first | exact slK_sl | rfl) hR.symm
            · rw [if_neg (by simp_all), if_neg (by simpa using hc)] at hR
              exact dv_of (by first | exact slK_sl | rfl) hR.symm
        · intro _ _ _ _ h; cases h
  · rw [if_pos h0] at hR
    obtain ⟨s, b, rk, o, p⟩ := e
    have h0' : (er != 0) = true := by simpa using h0
    refine pc_ofR F7_ok mixed (fun _ => [0, 1, 2, 3, 8, 9, 10, 11, 12, 13, 15, 17, 18, 20, 31, 33, 34, 35, 36, 47, 49, 50, 51, 52, 61, 75, 83]) (rs := [.tmp 8, .tmp 9]) Try.func43 rfl (by kernel_rfl) (by kernel_rfl) (Nat.le_of_ble_eq_true rfl) ?_
    simp only [initF_cons, initF_nil, Nat.reduceAdd]
    refine t_name fun KF => ?_
    unfold F7
    repeat' (first
     | (with_reducible first | refine t_seq fun K => ?_ | refine t_block ?_ | refine t_scope ?_ | refine t_label ?_ | refine t_skip ?_ | refine t_exit ?_ | refine t_ret ?_ | refine t_k ?_ | refine t_gF ?_ | exact kp_nil | exact Kp.refl _ | exact kp_to | refine kp_cons ?_ | refine kp_arr ?_ | refine kp_app ?_ | refine t_p ?_ | refine t_br (fun hc => ?_) fun hc => ?_)
     | ((with_reducible first | refine t_kE ?_ | refine t_kD ?_ | refine t_gS ?_ | refine t_kL ?_ | refine t_kLF ?_ ?_ | refine t_region fun K => ?_ | refine t_cond fun A B => ?_ | refine t_draw (by kernel_rfl) fun K => ?_); simp only [go_sem, geff, h0', con65b_f, con61_f, con72_f, con75_f, con65b_c, con61_c, con72_c, con75_c, no65, no61, no72, no75, ils_length, slK_sl, hG, gV_def, entV_def, szV_def, fnV_none, fnV_some, sizeK_def])
     | ((with_reducible refine kp_skip ?_ ?_); rfl) | simp only [thenQ, blockQ, scopeQ, Nat.reduceEqDiff, reduceIte] | (with_reducible first | refine And.intro ?_ ?_ | intro vr))
    all_goals try (first | (with_reducible assumption) | (intros; (try simp only [Bool.and_eq_true, Bool.or_eq_true, Bool.or_eq_false_iff, Bool.not_eq_true', Bool.not_eq_false', decide_eq_true_eq, decide_eq_false_iff_not, beq_iff_eq, beq_eq_false_iff_ne, bne_iff_ne, bne_eq_false_iff_eq, ne_eq, inI64, List.length_append] at *) <;> omega))
    all_goals ((first | refine end_retE ?_ | refine end_normE ?_); simp only [fin, go_sem])
    exact dv_of rfl hR.symm
noncomputable def con43 : PCon Try.prog where
  f := 43
  c := fun
    | [.lit (.string op), xns, .lit (.int .i64 num), xds] => match slK .i64 xns, ilsOf xds with | some ns, some ds => some (ds.length ≤ 1000000, dV (dimsI op ns num ds)) | _, _ => none
    | _ => none
  ok := by
    intro args p r hc hp
    split at hc
    · split at hc
      · rename_i hns hds
        cases hc
        exact PC.weak (dimsI_pc hp) ⟨LeA.refl _, slK_le hns, LeA.refl _, ilsOf_le hds, trivial⟩
      · cases hc
    · cases hc
  fk := fk43
theorem con43_f : con43.f = 43 := rfl
theorem con43_c {op : ByteArray} {xns : AV} {num : Int} {xds : AV} : con43.c [.lit (.string op), xns, .lit (.int .i64 num), xds] = match slK .i64 xns, ilsOf xds with | some ns, some ds => some (ds.length ≤ 1000000, dV (dimsI op ns num ds)) | _, _ => none := rfl
end Go.Proofs.Ytjlcbojpiieafaa

/- The names of the primitives, their ranks (reference). -/
namespace Go.Proofs.Ytjlcbojpiieafaa
open Go Go.Fw

theorem eqS_symm (a b : ByteArray) : eqS a b = eqS b a := by
  cases h : eqS b a with
  | true => rw [eqS_iff.1 h]; exact eqS_refl _
  | false =>
    cases h2 : eqS a b with
    | false => rfl
    | true => rw [eqS_iff.1 h2, eqS_refl] at h; cases h
theorem op_cases (op : ByteArray) : op = n_iota ∨ op = n_fill ∨ op = n_take ∨ op = n_drop ∨ op = n_reverse ∨ op = n_append ∨ op = n_transpose ∨ op = n_diagonal ∨ op = n_windows ∨ op = n_chunk ∨ op = n_index ∨ op = n_update ∨ op = n_pack ∨ (eqS op ⟨#[105, 111, 116, 97]⟩ = false ∧ eqS op ⟨#[102, 105, 108, 108]⟩ = false ∧ eqS op ⟨#[116, 97, 107, 101]⟩ = false ∧ eqS op ⟨#[100, 114, 111, 112]⟩ = false ∧ eqS op ⟨#[114, 101, 118, 101, 114, 115, 101]⟩ = false ∧ eqS op ⟨#[97, 112, 112, 101, 110, 100]⟩ = false ∧ eqS op ⟨#[116, 114, 97, 110, 115, 112, 111, 115, 101]⟩ = false ∧ eqS op ⟨#[100, 105, 97, 103, 111, 110, 97, 108]⟩ = false ∧ eqS op ⟨#[119, 105, 110, 100, 111, 119, 115]⟩ = false ∧ eqS op ⟨#[99, 104, 117, 110, 107]⟩ = false ∧ eqS op ⟨#[105, 110, 100, 101, 120]⟩ = false ∧ eqS op ⟨#[117, 112, 100, 97, 116, 101]⟩ = false ∧ eqS op ⟨#[112, 97, 99, 107]⟩ = false) := by
  by_cases h0 : op = n_iota
  · exact .inl h0
  by_cases h1 : op = n_fill
  · exact .inr (.inl h1)
  by_cases h2 : op = n_take
  · exact .inr (.inr (.inl h2))
  by_cases h3 : op = n_drop
  · exact .inr (.inr (.inr (.inl h3)))
  by_cases h4 : op = n_reverse
  · exact .inr (.inr (.inr (.inr (.inl h4))))
  by_cases h5 : op = n_append
  · exact .inr (.inr (.inr (.inr (.inr (.inl h5)))))
  by_cases h6 : op = n_transpose
  · exact .inr (.inr (.inr (.inr (.inr (.inr (.inl h6))))))
  by_cases h7 : op = n_diagonal
  · exact .inr (.inr (.inr (.inr (.inr (.inr (.inr (.inl h7)))))))
  by_cases h8 : op = n_windows
  · exact .inr (.inr (.inr (.inr (.inr (.inr (.inr (.inr (.inl h8))))))))
  by_cases h9 : op = n_chunk
  · exact .inr (.inr (.inr (.inr (.inr (.inr (.inr (.inr (.inr (.inl h9)))))))))
  by_cases h10 : op = n_index
  · exact .inr (.inr (.inr (.inr (.inr (.inr (.inr (.inr (.inr (.inr (.inl h10))))))))))
  by_cases h11 : op = n_update
  · exact .inr (.inr (.inr (.inr (.inr (.inr (.inr (.inr (.inr (.inr (.inr (.inl h11)))))))))))
  by_cases h12 : op = n_pack
  · exact .inr (.inr (.inr (.inr (.inr (.inr (.inr (.inr (.inr (.inr (.inr (.inr (.inl h12))))))))))))
  exact .inr (.inr (.inr (.inr (.inr (.inr (.inr (.inr (.inr (.inr (.inr (.inr (.inr (⟨Bool.eq_false_iff.2 fun e => h0 (eqS_iff.1 e), Bool.eq_false_iff.2 fun e => h1 (eqS_iff.1 e), Bool.eq_false_iff.2 fun e => h2 (eqS_iff.1 e), Bool.eq_false_iff.2 fun e => h3 (eqS_iff.1 e), Bool.eq_false_iff.2 fun e => h4 (eqS_iff.1 e), Bool.eq_false_iff.2 fun e => h5 (eqS_iff.1 e), Bool.eq_false_iff.2 fun e => h6 (eqS_iff.1 e), Bool.eq_false_iff.2 fun e => h7 (eqS_iff.1 e), Bool.eq_false_iff.2 fun e => h8 (eqS_iff.1 e), Bool.eq_false_iff.2 fun e => h9 (eqS_iff.1 e), Bool.eq_false_iff.2 fun e => h10 (eqS_iff.1 e), Bool.eq_false_iff.2 fun e => h11 (eqS_iff.1 e), Bool.eq_false_iff.2 fun e => h12 (eqS_iff.1 e)⟩)))))))))))))
def sizedS (op : ByteArray) : Bool := eqS op n_iota || eqS op n_fill || eqS op n_take || eqS op n_drop || eqS op n_windows
theorem sized_pc {op : ByteArray} : PC Try.prog 84 [.lit (.string op)] (.lit (.bool (sizedS op))) := by
  refine pc_ofR F1_ok mixed (fun _ => [0, 2]) (rs := [.tmp 2]) Try.func84 rfl (by kernel_rfl) (by kernel_rfl) (Nat.le_of_ble_eq_true rfl) ?_
  simp only [initF_cons, initF_nil, Nat.reduceAdd]
  refine t_name fun KF => ?_
  unfold F1
  repeat' (first
   | (with_reducible first | refine t_seq fun K => ?_ | refine t_block ?_ | refine t_scope ?_ | refine t_label ?_ | refine t_skip ?_ | refine t_exit ?_ | refine t_ret ?_ | refine t_k ?_ | refine t_gF ?_ | exact kp_nil | exact Kp.refl _ | exact kp_to | refine kp_cons ?_ | refine kp_arr ?_ | refine kp_app ?_ | refine t_p ?_ | refine t_br (fun hc => ?_) fun hc => ?_)
   | ((with_reducible first | refine t_kE ?_ | refine t_kD ?_ | refine t_gS ?_ | refine t_kL ?_ | refine t_kLF ?_ ?_ | refine t_region fun K => ?_ | refine t_cond fun A B => ?_ | refine t_draw (by kernel_rfl) fun K => ?_); simp only [go_sem, geff])
   | ((with_reducible refine kp_skip ?_ ?_); rfl) | simp only [thenQ, blockQ, scopeQ, Nat.reduceEqDiff, reduceIte] | (with_reducible first | refine And.intro ?_ ?_ | intro vr))
  all_goals try (first | (with_reducible assumption) | (intros; (try simp only [Bool.and_eq_true, Bool.or_eq_true, Bool.or_eq_false_iff, Bool.not_eq_true', Bool.not_eq_false', decide_eq_true_eq, decide_eq_false_iff_not, beq_iff_eq, beq_eq_false_iff_ne, bne_iff_ne, bne_eq_false_iff_eq, ne_eq, inI64, List.length_append] at *) <;> omega))
  all_goals ((first | refine end_retE ?_ | refine end_normE ?_); simp only [fin, go_sem])
  exact LeA.of_eq (by unfold sizedS; rfl)
noncomputable def con84 : PCon Try.prog where
  f := 84
  c := fun
    | [.lit (.string op)] => some (True, .lit (.bool (sizedS op)))
    | _ => none
  ok := by
    intro args p r hc hp
    split at hc
    · cases hc; exact sized_pc
    · cases hc
  fk := fk84
theorem con84_f : con84.f = 84 := rfl
theorem con84_c {op : ByteArray} : con84.c [.lit (.string op)] = some (True, .lit (.bool (sizedS op))) := rfl
end Go.Proofs.Ytjlcbojpiieafaa

/- The checks of the reference are those of given. -/
namespace Go.Proofs.Ytjlcbojpiieafaa
open Go Go.Fw

end Go.Proofs.Ytjlcbojpiieafaa

/- Which slots live behind each region, made by program (keeps2.py). -/
namespace Go.Proofs.Ytjlcbojpiieafaa
def kp12 (i : Nat) : List Nat := if i < 11 then if i < 5 then if i < 2 then if i < 1 then [0, 2, 4] else [0, 2, 4, 23] else if i < 3 then [6] else if i < 4 then [0, 2, 4, 27] else [6] else if i < 8 then if i < 6 then [0, 2, 7, 8, 9] else if i < 7 then [0, 2, 7, 8, 9, 10, 11] else [0, 2, 7, 8, 9, 10, 11, 12, 13, 14] else if i < 9 then [0, 2, 7, 8, 9, 10, 11, 12, 13, 14, 15, 16, 17] else if i < 10 then [0, 2, 7, 8, 9, 10, 11, 12, 13, 14, 15, 16, 17, 18, 20] else [0, 2, 7, 8, 9, 10, 11, 12, 15, 18, 109] else if i < 16 then if i < 13 then if i < 12 then [6] else [0, 2, 7, 8, 9, 10, 11, 12, 15, 18, 21] else if i < 14 then [0, 2, 7, 8, 9, 10, 11, 12, 15, 18, 21, 110] else if i < 15 then [0, 2, 7, 8, 9, 10, 11, 12, 15, 18, 21] else [0, 2, 8, 9, 10, 11, 18, 21, 129] else if i < 19 then if i < 17 then [6] else if i < 18 then [0, 2, 9, 11, 18, 21, 135] else [0, 2, 9, 11, 18, 21] else if i < 20 then [0, 2, 9, 18, 21, 146] else if i < 21 then [6] else [6]
def kp38 (i : Nat) : List Nat := if i < 1 then [] else if i < 2 then [1, 2, 3] else [0]
def kp40 (i : Nat) : List Nat := if i < 19 then if i < 9 then if i < 4 then if i < 2 then if i < 1 then [0, 1, 2, 3, 8, 9] else [0, 1, 2, 3, 8, 9, 10, 11] else if i < 3 then [0, 1, 2, 3, 8, 9, 10, 11, 33] else [8, 9, 10] else if i < 6 then if i < 5 then [0, 1, 2, 3, 8, 9, 11, 12] else [0, 1, 2, 3, 8, 9, 11, 12, 13] else if i < 7 then [0, 1, 2, 3, 8, 9, 11, 12, 13, 36, 37, 38] else if i < 8 then [0, 1, 2, 3, 8, 9, 11, 12, 13, 36, 37, 38, 39] else [0, 1, 2, 3, 8, 9, 11, 12, 13, 15, 36, 37, 38] else if i < 14 then if i < 11 then if i < 10 then [0, 1, 2, 3, 8, 9, 11, 12, 13, 15, 36, 37, 38, 44] else [8, 9, 10] else if i < 12 then [0, 1, 2, 3, 8, 9, 11, 12, 13, 36, 37, 38] else if i < 13 then [0, 1, 2, 3, 8, 9, 11, 12, 13, 36, 37, 38] else [0, 1, 2, 3, 8, 9, 11, 13, 16, 17] else if i < 16 then if i < 15 then [0, 1, 2, 3, 8, 9, 11, 13, 16, 64] else [8, 9, 10] else if i < 17 then [0, 1, 2, 3, 8, 9, 10, 11, 16, 18] else if i < 18 then [0, 1, 2, 3, 8, 9, 10, 11, 16, 18, 75] else [8, 9, 10] else if i < 29 then if i < 24 then if i < 21 then if i < 20 then [0, 1, 2, 3, 8, 9, 11, 18, 19] else [0, 1, 2, 3, 8, 9, 11, 18, 19, 81] else if i < 22 then [8, 9, 19] else if i < 23 then [0, 1, 2, 3, 8, 9, 11, 18, 19, 81, 92] else [8, 9, 19, 96, 97] else if i < 26 then if i < 25 then [8, 9, 19, 96, 97, 98] else [8, 9, 19, 20, 96, 97] else if i < 27 then [8, 9, 19, 96, 97] else if i < 28 then [8, 9, 19, 96, 97] else [0, 1, 2, 3, 8, 9, 11, 18, 19, 81, 107] else if i < 34 then if i < 31 then if i < 30 then [0, 1, 2, 3, 8, 9, 11, 18, 19, 81, 107] else [8, 9, 19, 110, 111, 112] else if i < 32 then [8, 9, 19, 110, 111, 112, 113] else if i < 33 then [8, 9, 19, 22, 110, 111, 112] else [8, 9, 19, 110, 111, 112] else if i < 36 then if i < 35 then [8, 9, 19, 110, 111, 112] else [0, 1, 2, 3, 8, 9, 11, 18, 19, 81, 123] else if i < 37 then [0, 1, 2, 3, 8, 9, 11, 18, 19, 123] else if i < 38 then [8, 9, 19] else [8, 9, 10]
def kp42 (i : Nat) : List Nat := if i < 7 then if i < 3 then if i < 1 then [0, 1] else if i < 2 then [0, 1, 7] else [0, 1, 21] else if i < 5 then if i < 4 then [4, 5] else [0, 1, 8] else if i < 6 then [1, 8, 29] else [8, 33] else if i < 10 then if i < 8 then [4, 5] else if i < 9 then [8] else [8, 38] else if i < 12 then if i < 11 then [4, 5] else [8, 41] else if i < 13 then [4, 5] else [4, 5]
def kp44 (i : Nat) : List Nat := if i < 4 then if i < 2 then if i < 1 then [0] else [5, 6, 7] else if i < 3 then [5, 6, 7, 8] else [4, 5, 6, 7] else if i < 6 then if i < 5 then [5, 6, 7, 19] else [2] else if i < 7 then [5, 6, 7] else [2]
def kp45 (i : Nat) : List Nat := if i < 1 then [0, 2] else [2]
def kp46 (i : Nat) : List Nat := if i < 4 then if i < 2 then if i < 1 then [0, 1, 2, 6] else [0, 1, 2, 6, 7] else if i < 3 then [0, 1, 2, 6, 7, 12] else [0, 2, 6, 7] else if i < 6 then if i < 5 then [0, 6, 8, 10] else [0, 6, 8, 24] else if i < 7 then [6] else [6]
def kp47 (i : Nat) : List Nat := if i < 1 then [2, 3] else [4]
def kp48 (i : Nat) : List Nat := if i < 1 then [0, 2] else [2]
def kp61 (i : Nat) : List Nat := if i < 2 then if i < 1 then [0] else [0, 4] else if i < 3 then [2] else [2]
def kp73 (i : Nat) : List Nat := if i < 6 then if i < 3 then if i < 1 then [0, 1] else if i < 2 then [0, 1, 6, 7] else [0, 1, 6, 7, 8] else if i < 4 then [0, 1, 6, 7, 8, 28] else if i < 5 then [4, 5] else [1, 6, 7, 8, 35] else if i < 9 then if i < 7 then [4, 5] else if i < 8 then [1, 6, 7, 43] else [4, 5] else if i < 10 then [1, 7, 9] else if i < 11 then [9] else [4, 5]
def kp74 (i : Nat) : List Nat := if i < 5 then if i < 2 then if i < 1 then [2, 4, 5, 7] else [2, 4, 5, 7, 9] else if i < 3 then [2, 4, 5, 7, 9, 10] else if i < 4 then [2, 9, 10, 12] else [2, 9, 12, 22, 23] else if i < 8 then if i < 6 then [2, 9, 12, 22, 23, 24] else if i < 7 then [2, 9, 12, 13, 22, 23] else [2, 9, 12, 14, 22, 23] else if i < 9 then [2, 9, 12, 22, 23] else if i < 10 then [2, 9, 12, 22, 23] else [8]
def kp79 (i : Nat) : List Nat := if i < 1 then [0, 1] else [4]
def kp80 (i : Nat) : List Nat := if i < 1 then [0] else [2]
def kp81 (i : Nat) : List Nat := if i < 2 then if i < 1 then [0] else [0, 4] else if i < 3 then [2] else [2]
def kp83 (i : Nat) : List Nat := if i < 1 then [0, 1] else [3]
def kp96 (i : Nat) : List Nat := if i < 1 then [0, 1, 2, 3] else [5]
def kp97 (i : Nat) : List Nat := if i < 4 then if i < 2 then if i < 1 then [0, 1] else [0, 1, 7, 8] else if i < 3 then [0, 1, 7, 8, 9] else [0, 1, 5, 7, 8] else if i < 6 then if i < 5 then [0, 1, 5, 7, 8, 16] else [4] else if i < 7 then [0, 1, 7, 8] else [4]
end Go.Proofs.Ytjlcbojpiieafaa

/- slices.Delete at []string, laid by the shelf's plain mode. -/
namespace Go.Proofs
open Go.Shelf

def Try.laysNm224_ren : Go.Shelf.Ren := ⟨fun | 24 => 82 | n => n, fun | 24 => 62 | 9 => 9 | 3 => 3 | 4 => 4 | 0 => 0 | n => n, fun | n => n⟩
theorem Try.laysNm224 : Go.Proofs.Lays2.n24 Try.prog Try.laysNm224_ren := {
  mixed := by kernel_rfl
  f24 := Try.func82.trans (congrArg some (by kernel_rfl))
  t0 := Try.underlying0
  a0 := Try.isAgg0
  z0 := Try.sizeOf0
  v0 := Try.zeroValue0
  t3 := Try.underlying3
  a3 := Try.isAgg3
  z3 := Try.sizeOf3
  v3 := Try.zeroValue3
  t4 := Try.underlying4
  a4 := Try.isAgg4
  z4 := Try.sizeOf4
  v4 := Try.zeroValue4
  t9 := Try.underlying9
  a9 := Try.isAgg9
  z9 := Try.sizeOf9
  v9 := Try.zeroValue9
  t24 := Try.underlying62
  a24 := Try.isAgg62
  z24 := Try.sizeOf62
  v24 := Try.zeroValue62
  i9 := by kernel_rfl }
open Go.RowKit Go.Lib Go.Sort in
open Go.RowKit Go.Lib Go.Sort in
/-- slices.Delete at []string: "Delete modifies s in place by removing the elements s[i:j], and returns the modified slice. Delete panics if j > len(s) or s[i:j] is not a valid slice of s. Delete is O(len(s)-i), so if many items must be deleted, it is better to make a single call deleting them all together than to delete one at a time. Delete zeroes the elements s[len(s)-(j-i):len(s)]. If the result is empty, it has the same nilness as s.": FOR i ≤ j ≤ len(s) IT RETURNS THE SLICE CUT TO len(s) - (j - i) ELEMENTS; ITS CELLS HOLD what stood ahead of i, what stood from j on, then j - i zero values; all else is as it was, but for the count of draws. IN THE WORDS OF slices.Sort's CONTRACT ('Holds', 'putRow'). It asks 'zs.length ≤ cap ≤ 2^63 - 1' (every slice's). (Outside i ≤ j ≤ len(s) it panics: no contract here.) (LAID: no walk: one application.) -/
theorem Try.slices_Delete_string (blk off cap i j : Nat) (zs : List (List UInt8)) (w : World) (hH : Holds encStr w blk off zs.toArray) (hcap : zs.length ≤ cap) (hm : cap ≤ 9223372036854775807) (hij : i ≤ j) (hj : j ≤ zs.length) :
    Calls Try.prog 82 #[.slice (some ⟨blk, off, none⟩) zs.length cap, .int .i64 i, .int .i64 j] w fun e w' => e = .returned (.slice (some ⟨blk, off, none⟩) (zs.length - (j - i)) cap) ∧ ∃ q, w' = putRow encStr (Sort.ahead w q) blk off (zs.take i ++ zs.drop j ++ List.replicate (j - i) []).toArray := Any.slices_Delete_string Try.laysNm224 blk off cap i j zs w hH hcap hm hij hj
end Go.Proofs

/- Lists of element types: copies, tests, a deletion. -/
namespace Go.Proofs.Ytjlcbojpiieafaa
open Go Go.Fw
set_option maxRecDepth 20000

theorem clones_ec {σ : List AObj} {l : List ByteArray} {k : AV → List AObj → Prop} (hl : l.length ≤ 1000000) (hk : k (.arr σ.length 0) (σ ++ [.arr 9 1 (strs l) 0 false])) : EC Try.prog 81 [.sl false 1 (strs l)] σ k := by
  refine EC.nilArr 9 1 ?_
  refine ec_ofR F1_ok mixed (kp81) (rs := [.tmp 2]) Try.func81 rfl (by kernel_rfl) (by kernel_rfl) (Nat.le_of_ble_eq_true rfl) ?_
  simp only [initF_cons, initF_nil, Nat.reduceAdd]
  refine t_name fun KF => ?_
  unfold F1
  repeat' (first
   | (with_reducible first | refine t_seq fun K => ?_ | refine t_block ?_ | refine t_scope ?_ | refine t_label ?_ | refine t_skip ?_ | refine t_exit ?_ | refine t_ret ?_ | refine t_k ?_ | refine t_gF ?_ | exact kp_nil | exact Kp.refl _ | exact kp_to | refine kp_cons ?_ | refine kp_arr ?_ | refine kp_app ?_ | refine t_p ?_ | refine t_br (fun hc => ?_) fun hc => ?_)
   | ((with_reducible first | refine t_kE (t_openE ?_) | refine t_kD (t_openD ?_) | refine t_kE ?_ | refine t_kD ?_ | refine t_gS ?_ | refine t_kL ?_ | refine t_kLF ?_ ?_ | refine t_region fun K => ?_ | refine t_cond fun A B => ?_ | refine t_draw (by kernel_rfl) fun K => ?_); (try (first | refine t_hideE fun KL => ?_ | refine t_hideD fun KL => ?_)); simp only [go_sem, geff, kp81])
   | ((with_reducible refine kp_skip ?_ ?_); rfl) | simp only [thenQ, blockQ, scopeQ, Nat.reduceEqDiff, reduceIte] | (with_reducible first | refine And.intro ?_ ?_ | intro vr))
  all_goals try (first | (with_reducible assumption) | (intros; (try simp only [Bool.and_eq_true, Bool.or_eq_true, Bool.or_eq_false_iff, Bool.not_eq_true', Bool.not_eq_false', decide_eq_true_eq, decide_eq_false_iff_not, beq_iff_eq, beq_eq_false_iff_ne, bne_iff_ne, bne_eq_false_iff_eq, ne_eq, inI64, List.length_append] at *) <;> omega))
  all_goals ((first | refine end_retE ?_ | refine end_normE ?_); simp only [fin, go_sem])
  · exact .inr (by simp_all [strs])
  · exact .inl hk
noncomputable def ecn81 : ECon Try.prog where
  f := 81
  c := fun args σ k => match args with
    | [xl] => match slS xl with | some l => l.length ≤ 1000000 ∧ k (.arr σ.length 0) (σ ++ [.arr 9 1 (strs l) 0 false]) | _ => False
    | _ => False
  ok := by
    intro args σ k h
    split at h
    · split at h
      · rename_i hl
        exact EC.weak (clones_ec h.1 h.2) (LeRL.cons (slS_leR hl) (LeRL.nil))
      · exact h.elim
    · exact h.elim
  fk := fk81
theorem ecn81_f : ecn81.f = 81 := rfl
theorem ecn81_c {xl : AV} {σ : List AObj} {k : AV → List AObj → Prop} : ecn81.c [xl] σ k = match slS xl with | some l => l.length ≤ 1000000 ∧ k (.arr σ.length 0) (σ ++ [.arr 9 1 (strs l) 0 false]) | _ => False := rfl
def noEl (t : ByteArray) : Bool := !eqS t ⟨#[105, 110, 116]⟩ && !eqS t ⟨#[98, 111, 111, 108]⟩
theorem noel_pc {t : ByteArray} : PC Try.prog 80 [.lit (.string t)] (.lit (.bool (noEl t))) := by
  refine pc_ofR F1_ok mixed (kp80) (rs := [.tmp 2]) Try.func80 rfl (by kernel_rfl) (by kernel_rfl) (Nat.le_of_ble_eq_true rfl) ?_
  simp only [initF_cons, initF_nil, Nat.reduceAdd]
  refine t_name fun KF => ?_
  unfold F1
  repeat' (first
   | (with_reducible first | refine t_seq fun K => ?_ | refine t_block ?_ | refine t_scope ?_ | refine t_label ?_ | refine t_skip ?_ | refine t_exit ?_ | refine t_ret ?_ | refine t_k ?_ | refine t_gF ?_ | exact kp_nil | exact Kp.refl _ | exact kp_to | refine kp_cons ?_ | refine kp_arr ?_ | refine kp_app ?_ | refine t_p ?_ | refine t_br (fun hc => ?_) fun hc => ?_)
   | ((with_reducible first | refine t_kE (t_openE ?_) | refine t_kD (t_openD ?_) | refine t_kE ?_ | refine t_kD ?_ | refine t_gS ?_ | refine t_kL ?_ | refine t_kLF ?_ ?_ | refine t_region fun K => ?_ | refine t_cond fun A B => ?_ | refine t_draw (by kernel_rfl) fun K => ?_); (try (first | refine t_hideE fun KL => ?_ | refine t_hideD fun KL => ?_)); simp only [go_sem, geff, kp80])
   | ((with_reducible refine kp_skip ?_ ?_); rfl) | simp only [thenQ, blockQ, scopeQ, Nat.reduceEqDiff, reduceIte] | (with_reducible first | refine And.intro ?_ ?_ | intro vr))
  all_goals try (first | (with_reducible assumption) | (intros; (try simp only [Bool.and_eq_true, Bool.or_eq_true, Bool.or_eq_false_iff, Bool.not_eq_true', Bool.not_eq_false', decide_eq_true_eq, decide_eq_false_iff_not, beq_iff_eq, beq_eq_false_iff_ne, bne_iff_ne, bne_eq_false_iff_eq, ne_eq, inI64, List.length_append] at *) <;> omega))
  all_goals ((first | refine end_retE ?_ | refine end_normE ?_); simp only [fin, go_sem])
  exact LeA.of_eq (by unfold noEl; rfl)
noncomputable def con80 : PCon Try.prog where
  f := 80
  c := fun
    | [.lit (.string t)] => some (True, .lit (.bool (noEl t)))
    | _ => none
  ok := by
    intro args p r hc hp
    split at hc
    · cases hc; exact noel_pc
    · cases hc
  fk := fk80
theorem con80_f : con80.f = 80 := rfl
theorem con80_c {t : ByteArray} : con80.c [.lit (.string t)] = some (True, .lit (.bool (noEl t))) := rfl
def idxB (p : ByteArray → Bool) : List ByteArray → Int → Int
  | [], _ => -1
  | d :: t, i => if p d = true then i else idxB p t (i + 1)
theorem idxB_any (p : ByteArray → Bool) : ∀ (l : List ByteArray) (i : Int), 0 ≤ i → decide (idxB p l i ≥ 0) = l.any p
  | [], _, _ => rfl
  | d :: t, i, hi => by
    unfold idxB
    by_cases h : p d = true
    · rw [if_pos h, List.any_cons, h, decide_eq_true hi]; rfl
    · rw [if_neg h, idxB_any p t (i + 1) (by omega), List.any_cons]
      simp only [Bool.not_eq_true] at h
      rw [h]; rfl
noncomputable def H1 : Env := envJ (P := Try.prog) jk2 zer (fun _ => false) (fun _ => false) [con80] []
theorem H1_ok : EnvOk Try.prog H1 := envJOk zer_ok
theorem idxn_pc {l : List ByteArray} (hl : l.length ≤ 1000000) : PC Try.prog 97 [.sl false 1 (strs l), .fn (.func 80) [] []] (.lit (.int .i64 (idxB noEl l 0))) := by
  generalize hR : idxB noEl l 0 = R
  refine pc_ofR H1_ok mixed (kp97) (rs := [.tmp 4]) Try.func97 rfl (by kernel_rfl) (by kernel_rfl) (Nat.le_of_ble_eq_true rfl) ?_
  simp only [initF_cons, initF_nil, Nat.reduceAdd]
  refine t_name fun KF => ?_
  unfold H1
  repeat' (first
   | (with_reducible first | refine t_seq fun K => ?_ | refine t_block ?_ | refine t_scope ?_ | refine t_label ?_ | refine t_skip ?_ | refine t_exit ?_ | refine t_ret ?_ | refine t_k ?_ | refine t_gF ?_ | exact kp_nil | exact Kp.refl _ | exact kp_to | refine kp_cons ?_ | refine kp_arr ?_ | refine kp_app ?_ | refine t_p ?_ | refine t_br (fun hc => ?_) fun hc => ?_)
   | ((with_reducible first | refine t_kE (t_openE ?_) | refine t_kD (t_openD ?_) | refine t_kE ?_ | refine t_kD ?_ | refine t_gS ?_ | refine t_kL ?_ | refine t_kLF ?_ ?_ | refine t_region fun K => ?_ | refine t_cond fun A B => ?_ | refine t_draw (by kernel_rfl) fun K => ?_); (try (first | refine t_hideE fun KL => ?_ | refine t_hideD fun KL => ?_)); simp only [go_sem, geff, kp97, strs_length, con80_f])
   | ((with_reducible refine kp_skip ?_ ?_); rfl) | simp only [thenQ, blockQ, scopeQ, Nat.reduceEqDiff, reduceIte] | (with_reducible first | refine And.intro ?_ ?_ | intro vr))
  refine t_loopF (ι := { i : Nat // i ≤ l.length ∧ idxB noEl (l.drop i) i = R }) (fun i => [(8, .lit (.int .i64 i.1))]) (fun i => []) (fun i => l.length - i.1) ⟨0, by omega, hR⟩ ?_ ?_
  · simp only [updL_nil, updL_cons, delF_top, delF_upd, Nat.reduceEqDiff, reduceIte]
    refine Le.frameS (by first | rfl | (simp only [go_sem]; try rfl)) ?_
    repeat' (first | exact leF_top _ | exact (fun _ => LeR.refl _) | (with_reducible refine leF_sl ?_ ?_) | (refine leF_upd ?_ ?_))
    all_goals (first | exact LeR.top _ | exact LeR.refl _ | (refine LeR.of_eq ?_; (try simp only [go_sem]); try rfl) | ((try simp only [go_sem]); try rfl))
  rintro ⟨i, hi, hF⟩ K0
  rcases Nat.lt_or_ge i l.length with hc | hc
  · rw [drop_getD ByteArray.empty hc, idxB] at hF
    have g3 : decide ((i : Int) < (l.length : Int)) = true := decide_eq_true (by omega)
    repeat' (first
     | (with_reducible first | refine t_seq fun K => ?_ | refine t_block ?_ | refine t_scope ?_ | refine t_label ?_ | refine t_skip ?_ | refine t_exit ?_ | refine t_ret ?_ | refine t_k ?_ | refine t_gF ?_ | exact kp_nil | exact Kp.refl _ | exact kp_to | refine kp_cons ?_ | refine kp_arr ?_ | refine kp_app ?_ | refine t_p ?_ | refine t_br (fun hc => ?_) fun hc => ?_)
     | ((with_reducible first | refine t_kE (t_openE ?_) | refine t_kD (t_openD ?_) | refine t_kE ?_ | refine t_kD ?_ | refine t_gS ?_ | refine t_kL ?_ | refine t_kLF ?_ ?_ | refine t_region fun K => ?_ | refine t_cond fun A B => ?_ | refine t_draw (by kernel_rfl) fun K => ?_); (try (first | refine t_hideE fun KL => ?_ | refine t_hideD fun KL => ?_)); simp only [go_sem, geff, kp97, g3, Int.toNat_natCast, strs_length, con80_f, con80_c])
     | ((with_reducible refine kp_skip ?_ ?_); rfl) | simp only [thenQ, blockQ, scopeQ, Nat.reduceEqDiff, reduceIte] | (with_reducible first | refine And.intro ?_ ?_ | intro vr))
    all_goals try (first | (with_reducible assumption) | (intros; (try simp only [Bool.and_eq_true, Bool.or_eq_true, Bool.or_eq_false_iff, Bool.not_eq_true', Bool.not_eq_false', decide_eq_true_eq, decide_eq_false_iff_not, beq_iff_eq, beq_eq_false_iff_ne, bne_iff_ne, bne_eq_false_iff_eq, ne_eq, inI64, List.length_append] at *) <;> omega))
    · skip
      all_goals ((first | refine end_retE ?_ | refine end_normE ?_); simp only [fin, go_sem])
      rw [if_pos hc] at hF
      exact LeA.of_eq (by rw [← hF])
    · skip
      refine ⟨⟨i + 1, by omega, by rw [if_neg (by rw [hc]; decide)] at hF; rw [← hF]; congr 1⟩, by first | (simp only; omega) | omega, ?_⟩
      simp only [updL_nil, updL_cons, delF_top, delF_upd, Nat.reduceEqDiff, reduceIte]
      refine Le.frameS (by first | rfl | (simp only [go_sem]; try rfl)) ?_
      repeat' (first | exact leF_top _ | exact (fun _ => LeR.refl _) | (with_reducible refine leF_sl ?_ ?_) | (refine leF_upd ?_ ?_))
      all_goals (first | exact LeR.top _ | exact LeR.refl _ | (refine LeR.of_eq ?_; (try simp only [go_sem]); try rfl) | ((try simp only [go_sem]); try rfl))
  · have g3 : decide ((i : Int) < (l.length : Int)) = false := decide_eq_false (by omega)
    rw [List.drop_eq_nil_of_le (by omega), idxB] at hF
    repeat' (first
     | (with_reducible first | refine t_seq fun K => ?_ | refine t_block ?_ | refine t_scope ?_ | refine t_label ?_ | refine t_skip ?_ | refine t_exit ?_ | refine t_ret ?_ | refine t_k ?_ | refine t_gF ?_ | exact kp_nil | exact Kp.refl _ | exact kp_to | refine kp_cons ?_ | refine kp_arr ?_ | refine kp_app ?_ | refine t_p ?_ | refine t_br (fun hc => ?_) fun hc => ?_)
     | ((with_reducible first | refine t_kE (t_openE ?_) | refine t_kD (t_openD ?_) | refine t_kE ?_ | refine t_kD ?_ | refine t_gS ?_ | refine t_kL ?_ | refine t_kLF ?_ ?_ | refine t_region fun K => ?_ | refine t_cond fun A B => ?_ | refine t_draw (by kernel_rfl) fun K => ?_); (try (first | refine t_hideE fun KL => ?_ | refine t_hideD fun KL => ?_)); simp only [go_sem, geff, kp97, g3, Int.toNat_natCast, strs_length, con80_f])
     | ((with_reducible refine kp_skip ?_ ?_); rfl) | simp only [thenQ, blockQ, scopeQ, Nat.reduceEqDiff, reduceIte] | (with_reducible first | refine And.intro ?_ ?_ | intro vr))
    all_goals try (first | (with_reducible assumption) | (intros; (try simp only [Bool.and_eq_true, Bool.or_eq_true, Bool.or_eq_false_iff, Bool.not_eq_true', Bool.not_eq_false', decide_eq_true_eq, decide_eq_false_iff_not, beq_iff_eq, beq_eq_false_iff_ne, bne_iff_ne, bne_eq_false_iff_eq, ne_eq, inI64, List.length_append] at *) <;> omega))
    all_goals ((first | refine end_retE ?_ | refine end_normE ?_); simp only [fin, go_sem])
    exact LeA.of_eq (by rw [← hF])
noncomputable def con97n : PCon Try.prog where
  f := 97
  c := fun
    | [x, .fn (.func 80) [] []] => match slS x with | some l => some (l.length ≤ 1000000, .lit (.int .i64 (idxB noEl l 0))) | _ => none
    | _ => none
  ok := by
    intro args p r hc hp
    split at hc
    · split at hc
      · rename_i hx
        cases hc
        exact PC.weak (idxn_pc hp) ⟨slS_le hx, LeA.refl _, trivial⟩
      · cases hc
    · cases hc
  fk := fk97
theorem con97n_f : con97n.f = 97 := rfl
theorem con97n_c {x : AV} : con97n.c [x, .fn (.func 80) [] []] = match slS x with | some l => some (l.length ≤ 1000000, .lit (.int .i64 (idxB noEl l 0))) | _ => none := rfl
noncomputable def H2 : Env := envJ (P := Try.prog) jk2 zer (fun _ => false) (fun _ => false) [con97n] []
theorem H2_ok : EnvOk Try.prog H2 := envJOk zer_ok
theorem anyn_pc {l : List ByteArray} (hl : l.length ≤ 1000000) : PC Try.prog 79 [.sl false 1 (strs l), .fn (.func 80) [] []] (.lit (.bool (l.any noEl))) := by
  rw [← idxB_any noEl l 0 (by omega)]
  refine pc_ofR H2_ok mixed (kp79) (rs := [.tmp 4]) Try.func79 rfl (by kernel_rfl) (by kernel_rfl) (Nat.le_of_ble_eq_true rfl) ?_
  simp only [initF_cons, initF_nil, Nat.reduceAdd]
  refine t_name fun KF => ?_
  unfold H2
  repeat' (first
   | (with_reducible first | refine t_seq fun K => ?_ | refine t_block ?_ | refine t_scope ?_ | refine t_label ?_ | refine t_skip ?_ | refine t_exit ?_ | refine t_ret ?_ | refine t_k ?_ | refine t_gF ?_ | exact kp_nil | exact Kp.refl _ | exact kp_to | refine kp_cons ?_ | refine kp_arr ?_ | refine kp_app ?_ | refine t_p ?_ | refine t_br (fun hc => ?_) fun hc => ?_)
   | ((with_reducible first | refine t_kE (t_openE ?_) | refine t_kD (t_openD ?_) | refine t_kE ?_ | refine t_kD ?_ | refine t_gS ?_ | refine t_kL ?_ | refine t_kLF ?_ ?_ | refine t_region fun K => ?_ | refine t_cond fun A B => ?_ | refine t_draw (by kernel_rfl) fun K => ?_); (try (first | refine t_hideE fun KL => ?_ | refine t_hideD fun KL => ?_)); simp only [go_sem, geff, kp79, con97n_f, con97n_c, slS_sl])
   | ((with_reducible refine kp_skip ?_ ?_); rfl) | simp only [thenQ, blockQ, scopeQ, Nat.reduceEqDiff, reduceIte] | (with_reducible first | refine And.intro ?_ ?_ | intro vr))
  all_goals try (first | (with_reducible assumption) | (intros; (try simp only [Bool.and_eq_true, Bool.or_eq_true, Bool.or_eq_false_iff, Bool.not_eq_true', Bool.not_eq_false', decide_eq_true_eq, decide_eq_false_iff_not, beq_iff_eq, beq_eq_false_iff_ne, bne_iff_ne, bne_eq_false_iff_eq, ne_eq, inI64, List.length_append] at *) <;> omega))
  all_goals ((first | refine end_retE ?_ | refine end_normE ?_); simp only [fin, go_sem])
  exact LeA.refl _
noncomputable def con79n : PCon Try.prog where
  f := 79
  c := fun
    | [x, .fn (.func 80) [] []] => match slS x with | some l => some (l.length ≤ 1000000, .lit (.bool (l.any noEl))) | _ => none
    | _ => none
  ok := by
    intro args p r hc hp
    split at hc
    · split at hc
      · rename_i hx
        cases hc
        exact PC.weak (anyn_pc hp) ⟨slS_le hx, LeA.refl _, trivial⟩
      · cases hc
    · cases hc
  fk := fk79
theorem con79n_f : con79n.f = 79 := rfl
theorem con79n_c {x : AV} : con79n.c [x, .fn (.func 80) [] []] = match slS x with | some l => some (l.length ≤ 1000000, .lit (.bool (l.any noEl))) | _ => none := rfl
theorem delete_ec {σ : List AObj} {l : List ByteArray} {o ver : Nat} {k : AV → List AObj → Prop} (hl : 1 < l.length) (ho : σ[o]? = some (.arr 9 1 (strs l) ver false))
    (hk : k (.arr o (ver + 1)) (σ.set o (.arr 9 1 (strs (l.eraseIdx 1)) (ver + 1) false))) : EC Try.prog 82 [.arr o ver, .lit (.int .i64 1), .lit (.int .i64 2)] σ k := by
  have e1 : ∀ l : List ByteArray, (l.map fun s : ByteArray => s.data.toList).map (fun a => AV.lit (encStr a)) = strs l := by
    intro l; simp [strs, encStr]
  refine EC.ofRow (α := List UInt8) (enc := encStr) (m := l.length - 1) (rest := [.int .i64 1, .int .i64 2]) (d := l.map fun s : ByteArray => s.data.toList)
    (d' := ((l.map fun s : ByteArray => s.data.toList).take 1 ++ (l.map fun s : ByteArray => s.data.toList).drop 2 ++ List.replicate 1 [])) (fun _ => rfl) (by intro h; simp at h; subst h; simp at hl) (by simp; omega) (by simp) (by omega) ?_ (by rw [e1]; exact ho) ?_
  · intro g cap w hH hc hm
    have := Try.slices_Delete_string g 0 cap 1 2 (l.map fun s : ByteArray => s.data.toList) w hH hc (by unfold maxLen at hm; omega) (by omega) (by simp; omega)
    simp only [List.length_map] at this ⊢
    exact this
  · have e2 : ((((l.map fun s : ByteArray => s.data.toList).take 1 ++ (l.map fun s : ByteArray => s.data.toList).drop 2 ++ List.replicate 1 [])).take (l.length - 1)) = (l.eraseIdx 1).map fun s : ByteArray => s.data.toList := by
      match l, hl with
      | a :: b :: t, _ => simp [List.eraseIdx]
    rw [e2, e1]
    exact hk
end Go.Proofs.Ytjlcbojpiieafaa

/- The element type of a result. -/
namespace Go.Proofs.Ytjlcbojpiieafaa
open Go Go.Fw
set_option maxRecDepth 20000

def withS (xs : List AV) (p : List ByteArray → Prop) : Prop := match strsOf xs with
  | some l => p l
  | none => False
theorem withS_strs {l : List ByteArray} {p : List ByteArray → Prop} : withS (strs l) p = p l := by unfold withS; rw [strsOf_strs]
theorem withS_inv {xs : List AV} {p : List ByteArray → Prop} (h : withS xs p) : ∃ l, xs = strs l ∧ p l := by
  unfold withS at h
  split at h
  · rename_i l hl; exact ⟨l, strsOf_inv hl, h⟩
  · exact h.elim
attribute [go_sem] withS_strs
noncomputable def ecn82 : ECon Try.prog where
  f := 82
  c := fun args σ k => match args with
    | [.arr o ver, .lit (.int .i64 1), .lit (.int .i64 2)] => arrAt 9 1 σ o ver fun xs => withS xs fun l => 1 < l.length ∧ k (.arr o (ver + 1)) (σ.set o (.arr 9 1 (strs (l.eraseIdx 1)) (ver + 1) false))
    | _ => False
  ok := by
    intro args σ k h
    split at h
    · obtain ⟨xs, ho, h1⟩ := arrAt_inv h
      obtain ⟨l, hxs, h2⟩ := withS_inv h1
      subst hxs
      exact delete_ec h2.1 ho h2.2
    · exact h.elim
  fk := fk82
theorem ecn82_f : ecn82.f = 82 := rfl
theorem ecn82_c {o ver : Nat} {σ : List AObj} {k : AV → List AObj → Prop} : ecn82.c [.arr o ver, .lit (.int .i64 1), .lit (.int .i64 2)] σ k = arrAt 9 1 σ o ver fun xs => withS xs fun l => 1 < l.length ∧ k (.arr o (ver + 1)) (σ.set o (.arr 9 1 (strs (l.eraseIdx 1)) (ver + 1) false)) := rfl
theorem differ_ec {σ : List AObj} {t : ByteArray} {l : List ByteArray} {o p ver : Nat} {k : AV → List AObj → Prop} (ho : σ[o]? = some (.box 62 [.arr p ver])) (hp : σ[p]? = some (.arr 9 1 (strs l) ver false)) (hl : 0 < l.length)
    (hk : k (.lit (.bool (!eqS t (l.getD 0 ByteArray.empty)))) σ) : EC Try.prog 83 [.lit (.string t), .ref o 0] σ k := by
  refine ec_ofR F4_ok mixed (kp83) (rs := [.tmp 3]) Try.func83 rfl (by kernel_rfl) (by kernel_rfl) (Nat.le_of_ble_eq_true rfl) ?_
  simp only [initF_cons, initF_nil, Nat.reduceAdd]
  refine t_name fun KF => ?_
  unfold F4
  repeat' (first
   | (with_reducible first | refine t_seq fun K => ?_ | refine t_block ?_ | refine t_scope ?_ | refine t_label ?_ | refine t_skip ?_ | refine t_exit ?_ | refine t_ret ?_ | refine t_k ?_ | refine t_gF ?_ | exact kp_nil | exact Kp.refl _ | exact kp_to | refine kp_cons ?_ | refine kp_arr ?_ | refine kp_app ?_ | refine t_p ?_ | refine t_br (fun hc => ?_) fun hc => ?_)
   | ((with_reducible first | refine t_kE (t_openE ?_) | refine t_kD (t_openD ?_) | refine t_kE ?_ | refine t_kD ?_ | refine t_gS ?_ | refine t_kL ?_ | refine t_kLF ?_ ?_ | refine t_region fun K => ?_ | refine t_cond fun A B => ?_ | refine t_draw (by kernel_rfl) fun K => ?_); (try (first | refine t_hideE fun KL => ?_ | refine t_hideD fun KL => ?_)); simp only [go_sem, geff, kp83, ho, hp, strs_length, yes])
   | ((with_reducible refine kp_skip ?_ ?_); rfl) | simp only [thenQ, blockQ, scopeQ, Nat.reduceEqDiff, reduceIte] | (with_reducible first | refine And.intro ?_ ?_ | intro vr))
  all_goals try (first | (with_reducible assumption) | (intros; (try simp only [Bool.and_eq_true, Bool.or_eq_true, Bool.or_eq_false_iff, Bool.not_eq_true', Bool.not_eq_false', decide_eq_true_eq, decide_eq_false_iff_not, beq_iff_eq, beq_eq_false_iff_ne, bne_iff_ne, bne_eq_false_iff_eq, ne_eq, inI64, List.length_append] at *) <;> omega))
  all_goals ((first | refine end_retE ?_ | refine end_normE ?_); simp only [fin, go_sem])
  exact hk
noncomputable def ecn83 : ECon Try.prog where
  f := 83
  c := fun args σ k => match args with
    | [.lit (.string t), .ref o 0] => match σ[o]? with
      | some (.box 62 [.arr p ver]) => arrAt 9 1 σ p ver fun xs => withS xs fun l => 0 < l.length ∧ k (.lit (.bool (!eqS t (l.getD 0 ByteArray.empty)))) σ
      | _ => False
    | _ => False
  ok := by
    intro args σ k h
    split at h
    · split at h
      · rename_i ho
        obtain ⟨xs, hp, h⟩ := arrAt_inv h
        obtain ⟨l, hxs, h2⟩ := withS_inv h
        subst hxs
        exact differ_ec ho hp h2.1 h2.2
      · exact h.elim
    · exact h.elim
  fk := fk83
theorem ecn83_f : ecn83.f = 83 := rfl
theorem ecn83_c {t : ByteArray} {o : Nat} {σ : List AObj} {k : AV → List AObj → Prop} : ecn83.c [.lit (.string t), .ref o 0] σ k = match σ[o]? with
      | some (.box 62 [.arr p ver]) => arrAt 9 1 σ p ver fun xs => withS xs fun l => 0 < l.length ∧ k (.lit (.bool (!eqS t (l.getD 0 ByteArray.empty)))) σ
      | _ => False := rfl
noncomputable def H3 : Env := envJ (P := Try.prog) jk2 zer (fun _ => false) (fun _ => false) [] [ecn83]
theorem H3_ok : EnvOk Try.prog H3 := envJOk zer_ok
theorem idxd_ec {σ : List AObj} {l : List ByteArray} {o p ver : Nat} {k : AV → List AObj → Prop} (ho : σ[o]? = some (.box 62 [.arr p ver])) (hp : σ[p]? = some (.arr 9 1 (strs l) ver false)) (hl : 0 < l.length) (hb : l.length ≤ 1000000)
    (hk : k (.lit (.int .i64 (idxB (fun t => !eqS t (l.getD 0 ByteArray.empty)) l 0))) σ) : EC Try.prog 97 [.arr p ver, .fn (.func 83) [] [.ref o 0]] σ k := by
  generalize hz : l.getD 0 ByteArray.empty = z at hk
  generalize hR : idxB (fun t => !eqS t z) l 0 = R at hk
  refine ec_ofR H3_ok mixed (kp97) (rs := [.tmp 4]) Try.func97 rfl (by kernel_rfl) (by kernel_rfl) (Nat.le_of_ble_eq_true rfl) ?_
  simp only [initF_cons, initF_nil, Nat.reduceAdd]
  refine t_name fun KF => ?_
  unfold H3
  repeat' (first
   | (with_reducible first | refine t_seq fun K => ?_ | refine t_block ?_ | refine t_scope ?_ | refine t_label ?_ | refine t_skip ?_ | refine t_exit ?_ | refine t_ret ?_ | refine t_k ?_ | refine t_gF ?_ | exact kp_nil | exact Kp.refl _ | exact kp_to | refine kp_cons ?_ | refine kp_arr ?_ | refine kp_app ?_ | refine t_p ?_ | refine t_br (fun hc => ?_) fun hc => ?_)
   | ((with_reducible first | refine t_kE (t_openE ?_) | refine t_kD (t_openD ?_) | refine t_kE ?_ | refine t_kD ?_ | refine t_gS ?_ | refine t_kL ?_ | refine t_kLF ?_ ?_ | refine t_region fun K => ?_ | refine t_cond fun A B => ?_ | refine t_draw (by kernel_rfl) fun K => ?_); (try (first | refine t_hideE fun KL => ?_ | refine t_hideD fun KL => ?_)); simp only [go_sem, geff, kp97, strs_length, ecn83_f, ho, hp])
   | ((with_reducible refine kp_skip ?_ ?_); rfl) | simp only [thenQ, blockQ, scopeQ, Nat.reduceEqDiff, reduceIte] | (with_reducible first | refine And.intro ?_ ?_ | intro vr))
  refine t_loopF (ι := { i : Nat // i ≤ l.length ∧ idxB (fun t => !eqS t z) (l.drop i) i = R }) (fun i => [(8, .lit (.int .i64 i.1))]) (fun i => σ) (fun i => l.length - i.1) ⟨0, by omega, hR⟩ ?_ ?_
  · simp only [updL_nil, updL_cons, delF_top, delF_upd, Nat.reduceEqDiff, reduceIte]
    refine Le.frameS (by first | rfl | (simp only [go_sem]; try rfl)) ?_
    repeat' (first | exact leF_top _ | exact (fun _ => LeR.refl _) | (with_reducible refine leF_sl ?_ ?_) | (refine leF_upd ?_ ?_))
    all_goals (first | exact LeR.top _ | exact LeR.refl _ | (refine LeR.of_eq ?_; (try simp only [go_sem]); try rfl) | ((try simp only [go_sem]); try rfl))
  rintro ⟨i, hi, hF⟩ K0
  rcases Nat.lt_or_ge i l.length with hc | hc
  · rw [drop_getD ByteArray.empty hc, idxB] at hF
    have g3 : decide ((i : Int) < (l.length : Int)) = true := decide_eq_true (by omega)
    repeat' (first
     | (with_reducible first | refine t_seq fun K => ?_ | refine t_block ?_ | refine t_scope ?_ | refine t_label ?_ | refine t_skip ?_ | refine t_exit ?_ | refine t_ret ?_ | refine t_k ?_ | refine t_gF ?_ | exact kp_nil | exact Kp.refl _ | exact kp_to | refine kp_cons ?_ | refine kp_arr ?_ | refine kp_app ?_ | refine t_p ?_ | refine t_br (fun hc => ?_) fun hc => ?_)
     | ((with_reducible first | refine t_kE (t_openE ?_) | refine t_kD (t_openD ?_) | refine t_kE ?_ | refine t_kD ?_ | refine t_gS ?_ | refine t_kL ?_ | refine t_kLF ?_ ?_ | refine t_region fun K => ?_ | refine t_cond fun A B => ?_ | refine t_draw (by kernel_rfl) fun K => ?_); (try (first | refine t_hideE fun KL => ?_ | refine t_hideD fun KL => ?_)); simp only [go_sem, geff, kp97, g3, Int.toNat_natCast, strs_length, ecn83_f, ecn83_c, ho, hp, hz, yes])
     | ((with_reducible refine kp_skip ?_ ?_); rfl) | simp only [thenQ, blockQ, scopeQ, Nat.reduceEqDiff, reduceIte] | (with_reducible first | refine And.intro ?_ ?_ | intro vr))
    all_goals try (first | (with_reducible assumption) | (intros; (try simp only [Bool.and_eq_true, Bool.or_eq_true, Bool.or_eq_false_iff, Bool.not_eq_true', Bool.not_eq_false', decide_eq_true_eq, decide_eq_false_iff_not, beq_iff_eq, beq_eq_false_iff_ne, bne_iff_ne, bne_eq_false_iff_eq, ne_eq, inI64, List.length_append] at *) <;> omega))
    · skip
      all_goals ((first | refine end_retE ?_ | refine end_normE ?_); simp only [fin, go_sem])
      rw [if_pos hc] at hF
      rw [hF]; exact hk
    · skip
      refine ⟨⟨i + 1, by omega, by rw [if_neg (by rw [hc]; decide)] at hF; rw [← hF]; congr 1⟩, by first | (simp only; omega) | omega, ?_⟩
      simp only [updL_nil, updL_cons, delF_top, delF_upd, Nat.reduceEqDiff, reduceIte]
      refine Le.frameS (by first | rfl | (simp only [go_sem]; try rfl)) ?_
      repeat' (first | exact leF_top _ | exact (fun _ => LeR.refl _) | (with_reducible refine leF_sl ?_ ?_) | (refine leF_upd ?_ ?_))
      all_goals (first | exact LeR.top _ | exact LeR.refl _ | (refine LeR.of_eq ?_; (try simp only [go_sem]); try rfl) | ((try simp only [go_sem]); try rfl))
  · have g3 : decide ((i : Int) < (l.length : Int)) = false := decide_eq_false (by omega)
    rw [List.drop_eq_nil_of_le (by omega), idxB] at hF
    repeat' (first
     | (with_reducible first | refine t_seq fun K => ?_ | refine t_block ?_ | refine t_scope ?_ | refine t_label ?_ | refine t_skip ?_ | refine t_exit ?_ | refine t_ret ?_ | refine t_k ?_ | refine t_gF ?_ | exact kp_nil | exact Kp.refl _ | exact kp_to | refine kp_cons ?_ | refine kp_arr ?_ | refine kp_app ?_ | refine t_p ?_ | refine t_br (fun hc => ?_) fun hc => ?_)
     | ((with_reducible first | refine t_kE (t_openE ?_) | refine t_kD (t_openD ?_) | refine t_kE ?_ | refine t_kD ?_ | refine t_gS ?_ | refine t_kL ?_ | refine t_kLF ?_ ?_ | refine t_region fun K => ?_ | refine t_cond fun A B => ?_ | refine t_draw (by kernel_rfl) fun K => ?_); (try (first | refine t_hideE fun KL => ?_ | refine t_hideD fun KL => ?_)); simp only [go_sem, geff, kp97, g3, Int.toNat_natCast, strs_length, ecn83_f, ho, hp])
     | ((with_reducible refine kp_skip ?_ ?_); rfl) | simp only [thenQ, blockQ, scopeQ, Nat.reduceEqDiff, reduceIte] | (with_reducible first | refine And.intro ?_ ?_ | intro vr))
    all_goals try (first | (with_reducible assumption) | (intros; (try simp only [Bool.and_eq_true, Bool.or_eq_true, Bool.or_eq_false_iff, Bool.not_eq_true', Bool.not_eq_false', decide_eq_true_eq, decide_eq_false_iff_not, beq_iff_eq, beq_eq_false_iff_ne, bne_iff_ne, bne_eq_false_iff_eq, ne_eq, inI64, List.length_append] at *) <;> omega))
    all_goals ((first | refine end_retE ?_ | refine end_normE ?_); simp only [fin, go_sem])
    rw [hF]; exact hk
noncomputable def ecn97 : ECon Try.prog where
  f := 97
  c := fun args σ k => match args with
    | [.arr p ver, .fn (.func 83) [] [.ref o 0]] => match σ[o]? with
      | some (.box 62 [.arr p' ver']) => (p' = p ∧ ver' = ver) ∧ arrAt 9 1 σ p ver fun xs => withS xs fun l => 0 < l.length ∧ l.length ≤ 1000000 ∧ k (.lit (.int .i64 (idxB (fun t => !eqS t (l.getD 0 ByteArray.empty)) l 0))) σ
      | _ => False
    | _ => False
  ok := by
    intro args σ k h
    split at h
    · split at h
      · rename_i ho
        obtain ⟨⟨rfl, rfl⟩, h⟩ := h
        obtain ⟨xs, hp, h⟩ := arrAt_inv h
        obtain ⟨l, hxs, h2⟩ := withS_inv h
        subst hxs
        exact idxd_ec ho hp h2.1 h2.2.1 h2.2.2
      · exact h.elim
    · exact h.elim
  fk := fk97
theorem ecn97_f : ecn97.f = 97 := rfl
theorem ecn97_c {p ver o : Nat} {σ : List AObj} {k : AV → List AObj → Prop} : ecn97.c [.arr p ver, .fn (.func 83) [] [.ref o 0]] σ k = match σ[o]? with
      | some (.box 62 [.arr p' ver']) => (p' = p ∧ ver' = ver) ∧ arrAt 9 1 σ p ver fun xs => withS xs fun l => 0 < l.length ∧ l.length ≤ 1000000 ∧ k (.lit (.int .i64 (idxB (fun t => !eqS t (l.getD 0 ByteArray.empty)) l 0))) σ
      | _ => False := rfl
noncomputable def H4 : Env := envJ (P := Try.prog) jk2 zer (fun _ => false) (fun _ => false) [] [ecn97]
theorem H4_ok : EnvOk Try.prog H4 := envJOk zer_ok
theorem anyd_ec {σ : List AObj} {l : List ByteArray} {o p ver : Nat} {k : AV → List AObj → Prop} (ho : σ[o]? = some (.box 62 [.arr p ver])) (hp : σ[p]? = some (.arr 9 1 (strs l) ver false)) (hl : 0 < l.length) (hb : l.length ≤ 1000000)
    (hk : k (.lit (.bool (l.any fun t => !eqS t (l.getD 0 ByteArray.empty)))) σ) : EC Try.prog 79 [.arr p ver, .fn (.func 83) [] [.ref o 0]] σ k := by
  rw [← idxB_any _ l 0 (by omega)] at hk
  refine ec_ofR H4_ok mixed (kp79) (rs := [.tmp 4]) Try.func79 rfl (by kernel_rfl) (by kernel_rfl) (Nat.le_of_ble_eq_true rfl) ?_
  simp only [initF_cons, initF_nil, Nat.reduceAdd]
  refine t_name fun KF => ?_
  unfold H4
  repeat' (first
   | (with_reducible first | refine t_seq fun K => ?_ | refine t_block ?_ | refine t_scope ?_ | refine t_label ?_ | refine t_skip ?_ | refine t_exit ?_ | refine t_ret ?_ | refine t_k ?_ | refine t_gF ?_ | exact kp_nil | exact Kp.refl _ | exact kp_to | refine kp_cons ?_ | refine kp_arr ?_ | refine kp_app ?_ | refine t_p ?_ | refine t_br (fun hc => ?_) fun hc => ?_)
   | ((with_reducible first | refine t_kE (t_openE ?_) | refine t_kD (t_openD ?_) | refine t_kE ?_ | refine t_kD ?_ | refine t_gS ?_ | refine t_kL ?_ | refine t_kLF ?_ ?_ | refine t_region fun K => ?_ | refine t_cond fun A B => ?_ | refine t_draw (by kernel_rfl) fun K => ?_); (try (first | refine t_hideE fun KL => ?_ | refine t_hideD fun KL => ?_)); simp only [go_sem, geff, kp79, ecn97_f, ecn97_c, ho, hp])
   | ((with_reducible refine kp_skip ?_ ?_); rfl) | simp only [thenQ, blockQ, scopeQ, Nat.reduceEqDiff, reduceIte] | (with_reducible first | refine And.intro ?_ ?_ | intro vr))
  all_goals try (first | (with_reducible assumption) | (intros; (try simp only [Bool.and_eq_true, Bool.or_eq_true, Bool.or_eq_false_iff, Bool.not_eq_true', Bool.not_eq_false', decide_eq_true_eq, decide_eq_false_iff_not, beq_iff_eq, beq_eq_false_iff_ne, bne_iff_ne, bne_eq_false_iff_eq, ne_eq, inI64, List.length_append] at *) <;> omega))
  all_goals ((first | refine end_retE ?_ | refine end_normE ?_); simp only [fin, go_sem])
  exact hk
noncomputable def ecn79 : ECon Try.prog where
  f := 79
  c := fun args σ k => match args with
    | [.arr p ver, .fn (.func 83) [] [.ref o 0]] => match σ[o]? with
      | some (.box 62 [.arr p' ver']) => (p' = p ∧ ver' = ver) ∧ arrAt 9 1 σ p ver fun xs => withS xs fun l => 0 < l.length ∧ l.length ≤ 1000000 ∧ k (.lit (.bool (l.any fun t => !eqS t (l.getD 0 ByteArray.empty)))) σ
      | _ => False
    | _ => False
  ok := by
    intro args σ k h
    split at h
    · split at h
      · rename_i ho
        obtain ⟨⟨rfl, rfl⟩, h⟩ := h
        obtain ⟨xs, hp, h⟩ := arrAt_inv h
        obtain ⟨l, hxs, h2⟩ := withS_inv h
        subst hxs
        exact anyd_ec ho hp h2.1 h2.2.1 h2.2.2
      · exact h.elim
    · exact h.elim
  fk := fk79
theorem ecn79_f : ecn79.f = 79 := rfl
theorem ecn79_c {p ver o : Nat} {σ : List AObj} {k : AV → List AObj → Prop} : ecn79.c [.arr p ver, .fn (.func 83) [] [.ref o 0]] σ k = match σ[o]? with
      | some (.box 62 [.arr p' ver']) => (p' = p ∧ ver' = ver) ∧ arrAt 9 1 σ p ver fun xs => withS xs fun l => 0 < l.length ∧ l.length ≤ 1000000 ∧ k (.lit (.bool (l.any fun t => !eqS t (l.getD 0 ByteArray.empty)))) σ
      | _ => False := rfl
def selS (op : ByteArray) : Bool := eqS op n_index || eqS op n_update
def sameS (op : ByteArray) (l : List ByteArray) : List ByteArray := if selS op = true then l.eraseIdx 1 else l
def resultS (op : ByteArray) (l : List ByteArray) : ByteArray × Bool :=
  if (ranksI op l.length).2 = false ∨ l.any noEl = true then (ByteArray.empty, false)
  else if selS op = true ∧ eqS (l.getD 1 ByteArray.empty) sInt = false then (ByteArray.empty, false)
  else if sameS op l = [] then (sInt, true)
  else if ((sameS op l).any fun t => !eqS t ((sameS op l).getD 0 ByteArray.empty)) = true then (ByteArray.empty, false)
  else ((sameS op l).getD 0 ByteArray.empty, true)
def sbV (r : ByteArray × Bool) : AV := .tup [.lit (.string r.1), .lit (.bool r.2)]
theorem sbV_def {r : ByteArray × Bool} : sbV r = .tup [.lit (.string r.1), .lit (.bool r.2)] := rfl
theorem sb_of {s : ByteArray} {b : Bool} {r : ByteArray × Bool} (h : r = (s, b)) : LeA (.tup [.lit (.string s), .lit (.bool b)]) (sbV r) := by subst h; exact LeA.refl _
theorem sel_len {op : ByteArray} {n : Nat} (h : (ranksI op n).2 = true) (hs : selS op = true) : 1 < n := by
  unfold selS at hs
  rw [Bool.or_eq_true] at hs
  rcases hs with hs | hs
  · rw [eqS_iff.1 hs] at h
    unfold ranksI at h
    rw [show findS n_index n = (ents.getD 10 ent0, true) from rfl] at h
    split at h
    · cases h
    · rename_i hh; simp [ents] at hh; omega
  · rw [eqS_iff.1 hs] at h
    unfold ranksI at h
    rw [show findS n_update n = (ents.getD 11 ent0, true) from rfl] at h
    split at h
    · cases h
    · rename_i hh; simp [ents] at hh; omega
noncomputable def H5 : Env := envJ (P := Try.prog) jk2 zer (fun _ => false) (fun t => t == 20) [con50, con79n] [ecn79, ecn81, ecn82]
theorem H5_ok : EnvOk Try.prog H5 := envJOk zer_ok
set_option maxHeartbeats 4000000 in
theorem result_pc {op : ByteArray} {l : List ByteArray} (hl : l.length ≤ 1000000) : PC Try.prog 42 [.lit (.string op), .sl false 1 (strs l)] (sbV (resultS op l)) := by
  generalize hR : resultS op l = R
  unfold resultS at hR
  by_cases h1 : (ranksI op l.length).2 = false ∨ l.any noEl = true
  · rw [if_pos h1] at hR
    have h1' : (!(ranksI op l.length).2 || l.any noEl) = true := by simpa using h1
    subst hR
    cases hr : (ranksI op l.length).2 with
    | false =>
      refine pc_ofR H5_ok mixed (kp42) (rs := [.tmp 4, .tmp 5]) Try.func42 rfl (by kernel_rfl) (by kernel_rfl) (Nat.le_of_ble_eq_true rfl) ?_
      simp only [initF_cons, initF_nil, Nat.reduceAdd]
      refine t_name fun KF => ?_
      unfold H5
      repeat' (first
        | with_reducible refine t_seq fun K => ?_
        | with_reducible refine t_block ?_
        | with_reducible refine t_scope ?_
        | with_reducible refine t_label ?_
        | with_reducible refine t_skip ?_
        | with_reducible refine t_exit ?_
        | with_reducible refine t_ret ?_
        | with_reducible refine t_k ?_
        | (with_reducible refine t_gF ?_)
        | ((first | with_reducible refine t_kE (t_openE ?_) | with_reducible refine t_kD (t_openD ?_) | with_reducible refine t_kE ?_ | with_reducible refine t_kD ?_ | with_reducible refine t_gS ?_ | with_reducible refine t_kL ?_ | (with_reducible refine t_kLE ?_ ?_; rotate_left) | with_reducible refine t_region fun K => ?_ | with_reducible refine t_draw (by kernel_rfl) fun K => ?_); (try (first | refine t_hideE fun KL => ?_ | refine t_hideD fun KL => ?_)); simp only [go_sem, geff_true, geff_false, kp42, con50_f, con79n_f, ecn79_f, ecn81_f, ecn82_f, con50_c, con79n_c, ecn79_c, ecn81_c, ecn82_c, strs_length, slS_sl, rkV_def, yes, hr])
        | (with_reducible exact kp_nil)
        | (with_reducible exact Kp.refl _)
        | (with_reducible exact kp_to)
        | (with_reducible refine kp_cons ?_)
        | (with_reducible refine kp_arr ?_)
        | (with_reducible refine kp_app ?_)
        | ((with_reducible refine kp_skip ?_ ?_); rfl)
        | ((with_reducible refine t_cond fun A B => ?_); simp only [go_sem, geff_true, geff_false, kp42, con50_f, con79n_f, ecn79_f, ecn81_f, ecn82_f, con50_c, con79n_c, ecn79_c, ecn81_c, ecn82_c, strs_length, slS_sl, rkV_def, yes, hr]; first | (with_reducible refine A.h ?_) | (with_reducible refine B.h ?_) | (refine And.intro (fun hc => A.h ?_) (fun hc => B.h ?_)))
        | ((with_reducible refine t_geffS (fun hg => ?_) (fun hg => ?_)) <;> ((try simp only [Bool.not_eq_true', Bool.not_eq_false', Bool.and_eq_true, Bool.or_eq_false_iff] at hg); simp only [hg, go_sem, geff_true, geff_false, kp42, con50_f, con79n_f, ecn79_f, ecn81_f, ecn82_f, con50_c, con79n_c, ecn79_c, ecn81_c, ecn82_c, strs_length, slS_sl, rkV_def, yes, hr]))
        | simp only [thenQ_n, thenQ_r, thenQ_e, blockQ_n, blockQ_r, blockQ_e, scopeQ_n, scopeQ_r, scopeQ_e, Nat.reduceEqDiff, reduceIte]
        | (with_reducible refine And.intro ?_ ?_)
        | with_reducible intro vr)
      all_goals try (first | (with_reducible assumption) | (intros; (try simp only [Bool.and_eq_true, Bool.or_eq_true, Bool.or_eq_false_iff, Bool.not_eq_true', Bool.not_eq_false', decide_eq_true_eq, decide_eq_false_iff_not, beq_iff_eq, beq_eq_false_iff_ne, bne_iff_ne, bne_eq_false_iff_eq, ne_eq, inI64, List.length_append] at *) <;> omega))
      all_goals ((first | refine end_retE ?_ | refine end_normE ?_); simp only [fin, go_sem])
      all_goals exact sb_of rfl
    | true =>
      have hn : l.any noEl = true := by rcases h1 with h | h; rw [hr] at h; cases h; exact h
      refine pc_ofR H5_ok mixed (kp42) (rs := [.tmp 4, .tmp 5]) Try.func42 rfl (by kernel_rfl) (by kernel_rfl) (Nat.le_of_ble_eq_true rfl) ?_
      simp only [initF_cons, initF_nil, Nat.reduceAdd]
      refine t_name fun KF => ?_
      unfold H5
      repeat' (first
        | with_reducible refine t_seq fun K => ?_
        | with_reducible refine t_block ?_
        | with_reducible refine t_scope ?_
        | with_reducible refine t_label ?_
        | with_reducible refine t_skip ?_
        | with_reducible refine t_exit ?_
        | with_reducible refine t_ret ?_
        | with_reducible refine t_k ?_
        | (with_reducible refine t_gF ?_)
        | ((first | with_reducible refine t_kE (t_openE ?_) | with_reducible refine t_kD (t_openD ?_) | with_reducible refine t_kE ?_ | with_reducible refine t_kD ?_ | with_reducible refine t_gS ?_ | with_reducible refine t_kL ?_ | (with_reducible refine t_kLE ?_ ?_; rotate_left) | with_reducible refine t_region fun K => ?_ | with_reducible refine t_draw (by kernel_rfl) fun K => ?_); (try (first | refine t_hideE fun KL => ?_ | refine t_hideD fun KL => ?_)); simp only [go_sem, geff_true, geff_false, kp42, con50_f, con79n_f, ecn79_f, ecn81_f, ecn82_f, con50_c, con79n_c, ecn79_c, ecn81_c, ecn82_c, strs_length, slS_sl, rkV_def, yes, hr, hn])
        | (with_reducible exact kp_nil)
        | (with_reducible exact Kp.refl _)
        | (with_reducible exact kp_to)
        | (with_reducible refine kp_cons ?_)
        | (with_reducible refine kp_arr ?_)
        | (with_reducible refine kp_app ?_)
        | ((with_reducible refine kp_skip ?_ ?_); rfl)
        | ((with_reducible refine t_cond fun A B => ?_); simp only [go_sem, geff_true, geff_false, kp42, con50_f, con79n_f, ecn79_f, ecn81_f, ecn82_f, con50_c, con79n_c, ecn79_c, ecn81_c, ecn82_c, strs_length, slS_sl, rkV_def, yes, hr, hn]; first | (with_reducible refine A.h ?_) | (with_reducible refine B.h ?_) | (refine And.intro (fun hc => A.h ?_) (fun hc => B.h ?_)))
        | ((with_reducible refine t_geffS (fun hg => ?_) (fun hg => ?_)) <;> ((try simp only [Bool.not_eq_true', Bool.not_eq_false', Bool.and_eq_true, Bool.or_eq_false_iff] at hg); simp only [hg, go_sem, geff_true, geff_false, kp42, con50_f, con79n_f, ecn79_f, ecn81_f, ecn82_f, con50_c, con79n_c, ecn79_c, ecn81_c, ecn82_c, strs_length, slS_sl, rkV_def, yes, hr, hn]))
        | simp only [thenQ_n, thenQ_r, thenQ_e, blockQ_n, blockQ_r, blockQ_e, scopeQ_n, scopeQ_r, scopeQ_e, Nat.reduceEqDiff, reduceIte]
        | (with_reducible refine And.intro ?_ ?_)
        | with_reducible intro vr)
      all_goals try (first | (with_reducible assumption) | (intros; (try simp only [Bool.and_eq_true, Bool.or_eq_true, Bool.or_eq_false_iff, Bool.not_eq_true', Bool.not_eq_false', decide_eq_true_eq, decide_eq_false_iff_not, beq_iff_eq, beq_eq_false_iff_ne, bne_iff_ne, bne_eq_false_iff_eq, ne_eq, inI64, List.length_append] at *) <;> omega))
      all_goals ((first | refine end_retE ?_ | refine end_normE ?_); simp only [fin, go_sem])
      all_goals exact sb_of rfl
  · rw [if_neg h1] at hR
    have hr : (ranksI op l.length).2 = true := by
      cases h : (ranksI op l.length).2 with
      | true => rfl
      | false => exact absurd (.inl h) h1
    have hn : l.any noEl = false := by
      cases h : l.any noEl with
      | false => rfl
      | true => exact absurd (.inr h) h1
    have hlen := sel_len (op := op) (n := l.length) hr
    by_cases hs : selS op = true
    · have hs' : (eqS op ⟨#[105, 110, 100, 101, 120]⟩ || eqS op ⟨#[117, 112, 100, 97, 116, 101]⟩) = true := hs
      have hlen := hlen hs
      unfold sameS at hR
      simp only [hs, if_true, true_and] at hR
      cases he : eqS (l.getD 1 ByteArray.empty) ⟨#[105, 110, 116]⟩ with
      | false =>
        rw [if_pos (show eqS (l.getD 1 ByteArray.empty) sInt = false from he)] at hR
        refine pc_ofR H5_ok mixed (kp42) (rs := [.tmp 4, .tmp 5]) Try.func42 rfl (by kernel_rfl) (by kernel_rfl) (Nat.le_of_ble_eq_true rfl) ?_
        simp only [initF_cons, initF_nil, Nat.reduceAdd]
        refine t_name fun KF => ?_
        unfold H5
        repeat' (first
          | with_reducible refine t_seq fun K => ?_
          | with_reducible refine t_block ?_
          | with_reducible refine t_scope ?_
          | with_reducible refine t_label ?_
          | with_reducible refine t_skip ?_
          | with_reducible refine t_exit ?_
          | with_reducible refine t_ret ?_
          | with_reducible refine t_k ?_
          | (with_reducible refine t_gF ?_)
          | ((first | with_reducible refine t_kE (t_openE ?_) | with_reducible refine t_kD (t_openD ?_) | with_reducible refine t_kE ?_ | with_reducible refine t_kD ?_ | with_reducible refine t_gS ?_ | with_reducible refine t_kL ?_ | (with_reducible refine t_kLE ?_ ?_; rotate_left) | with_reducible refine t_region fun K => ?_ | with_reducible refine t_draw (by kernel_rfl) fun K => ?_); (try (first | refine t_hideE fun KL => ?_ | refine t_hideD fun KL => ?_)); simp only [go_sem, geff_true, geff_false, kp42, con50_f, con79n_f, ecn79_f, ecn81_f, ecn82_f, con50_c, con79n_c, ecn79_c, ecn81_c, ecn82_c, strs_length, slS_sl, rkV_def, yes, hr, hn, hs', he])
          | (with_reducible exact kp_nil)
          | (with_reducible exact Kp.refl _)
          | (with_reducible exact kp_to)
          | (with_reducible refine kp_cons ?_)
          | (with_reducible refine kp_arr ?_)
          | (with_reducible refine kp_app ?_)
          | ((with_reducible refine kp_skip ?_ ?_); rfl)
          | ((with_reducible refine t_cond fun A B => ?_); simp only [go_sem, geff_true, geff_false, kp42, con50_f, con79n_f, ecn79_f, ecn81_f, ecn82_f, con50_c, con79n_c, ecn79_c, ecn81_c, ecn82_c, strs_length, slS_sl, rkV_def, yes, hr, hn, hs', he]; first | (with_reducible refine A.h ?_) | (with_reducible refine B.h ?_) | (refine And.intro (fun hc => A.h ?_) (fun hc => B.h ?_)))
          | ((with_reducible refine t_geffS (fun hg => ?_) (fun hg => ?_)) <;> ((try simp only [Bool.not_eq_true', Bool.not_eq_false', Bool.and_eq_true, Bool.or_eq_false_iff] at hg); simp only [hg, go_sem, geff_true, geff_false, kp42, con50_f, con79n_f, ecn79_f, ecn81_f, ecn82_f, con50_c, con79n_c, ecn79_c, ecn81_c, ecn82_c, strs_length, slS_sl, rkV_def, yes, hr, hn, hs', he]))
          | simp only [thenQ_n, thenQ_r, thenQ_e, blockQ_n, blockQ_r, blockQ_e, scopeQ_n, scopeQ_r, scopeQ_e, Nat.reduceEqDiff, reduceIte]
          | (with_reducible refine And.intro ?_ ?_)
          | with_reducible intro vr)
        all_goals try (first | (with_reducible assumption) | (intros; (try simp only [Bool.and_eq_true, Bool.or_eq_true, Bool.or_eq_false_iff, Bool.not_eq_true', Bool.not_eq_false', decide_eq_true_eq, decide_eq_false_iff_not, beq_iff_eq, beq_eq_false_iff_ne, bne_iff_ne, bne_eq_false_iff_eq, ne_eq, inI64, List.length_append] at *) <;> omega))
        all_goals ((first | refine end_retE ?_ | refine end_normE ?_); simp only [fin, go_sem])
        all_goals exact sb_of hR.symm
      | true =>
        rw [if_neg (by rw [show eqS (l.getD 1 ByteArray.empty) sInt = true from he]; decide)] at hR
        have hll : (l.eraseIdx 1).length = l.length - 1 := by rw [List.length_eraseIdx, if_pos hlen]
        have hz : (((l.eraseIdx 1).length : Int) == 0) = false := by rw [beq_eq_false_iff_ne]; omega
        rw [if_neg (by intro h; rw [h] at hll; simp at hll; omega)] at hR
        have hb : (l.eraseIdx 1).length ≤ 1000000 := by omega
        have hp : 0 < (l.eraseIdx 1).length := by omega
        refine pc_ofR H5_ok mixed (kp42) (rs := [.tmp 4, .tmp 5]) Try.func42 rfl (by kernel_rfl) (by kernel_rfl) (Nat.le_of_ble_eq_true rfl) ?_
        simp only [initF_cons, initF_nil, Nat.reduceAdd]
        refine t_name fun KF => ?_
        unfold H5
        repeat' (first
          | with_reducible refine t_seq fun K => ?_
          | with_reducible refine t_block ?_
          | with_reducible refine t_scope ?_
          | with_reducible refine t_label ?_
          | with_reducible refine t_skip ?_
          | with_reducible refine t_exit ?_
          | with_reducible refine t_ret ?_
          | with_reducible refine t_k ?_
          | (with_reducible refine t_gF ?_)
          | ((first | with_reducible refine t_kE (t_openE ?_) | with_reducible refine t_kD (t_openD ?_) | with_reducible refine t_kE ?_ | with_reducible refine t_kD ?_ | with_reducible refine t_gS ?_ | with_reducible refine t_kL ?_ | (with_reducible refine t_kLE ?_ ?_; rotate_left) | with_reducible refine t_region fun K => ?_ | with_reducible refine t_draw (by kernel_rfl) fun K => ?_); (try (first | refine t_hideE fun KL => ?_ | refine t_hideD fun KL => ?_)); simp only [go_sem, geff_true, geff_false, kp42, con50_f, con79n_f, ecn79_f, ecn81_f, ecn82_f, con50_c, con79n_c, ecn79_c, ecn81_c, ecn82_c, strs_length, slS_sl, rkV_def, yes, hr, hn, hs', he, hz])
          | (with_reducible exact kp_nil)
          | (with_reducible exact Kp.refl _)
          | (with_reducible exact kp_to)
          | (with_reducible refine kp_cons ?_)
          | (with_reducible refine kp_arr ?_)
          | (with_reducible refine kp_app ?_)
          | ((with_reducible refine kp_skip ?_ ?_); rfl)
          | ((with_reducible refine t_cond fun A B => ?_); simp only [go_sem, geff_true, geff_false, kp42, con50_f, con79n_f, ecn79_f, ecn81_f, ecn82_f, con50_c, con79n_c, ecn79_c, ecn81_c, ecn82_c, strs_length, slS_sl, rkV_def, yes, hr, hn, hs', he, hz]; first | (with_reducible refine A.h ?_) | (with_reducible refine B.h ?_) | (refine And.intro (fun hc => A.h ?_) (fun hc => B.h ?_)))
          | ((with_reducible refine t_geffS (fun hg => ?_) (fun hg => ?_)) <;> ((try simp only [Bool.not_eq_true', Bool.not_eq_false', Bool.and_eq_true, Bool.or_eq_false_iff] at hg); simp only [hg, go_sem, geff_true, geff_false, kp42, con50_f, con79n_f, ecn79_f, ecn81_f, ecn82_f, con50_c, con79n_c, ecn79_c, ecn81_c, ecn82_c, strs_length, slS_sl, rkV_def, yes, hr, hn, hs', he, hz]))
          | simp only [thenQ_n, thenQ_r, thenQ_e, blockQ_n, blockQ_r, blockQ_e, scopeQ_n, scopeQ_r, scopeQ_e, Nat.reduceEqDiff, reduceIte]
          | (with_reducible refine And.intro ?_ ?_)
          | with_reducible intro vr)
        all_goals try (first | (with_reducible assumption) | (intros; (try simp only [Bool.and_eq_true, Bool.or_eq_true, Bool.or_eq_false_iff, Bool.not_eq_true', Bool.not_eq_false', decide_eq_true_eq, decide_eq_false_iff_not, beq_iff_eq, beq_eq_false_iff_ne, bne_iff_ne, bne_eq_false_iff_eq, ne_eq, inI64, List.length_append] at *) <;> omega))
        all_goals ((first | refine end_retE ?_ | refine end_normE ?_); simp only [fin, go_sem])
        · rw [if_pos hc] at hR
          exact sb_of hR.symm
        · rw [if_neg (by rw [hc]; decide)] at hR
          exact sb_of hR.symm
    · have hs' : (eqS op ⟨#[105, 110, 100, 101, 120]⟩ || eqS op ⟨#[117, 112, 100, 97, 116, 101]⟩) = false := Bool.eq_false_iff.2 hs
      unfold sameS at hR
      simp only [hs, reduceCtorEq, if_false, false_and] at hR
      refine pc_ofR H5_ok mixed (kp42) (rs := [.tmp 4, .tmp 5]) Try.func42 rfl (by kernel_rfl) (by kernel_rfl) (Nat.le_of_ble_eq_true rfl) ?_
      simp only [initF_cons, initF_nil, Nat.reduceAdd]
      refine t_name fun KF => ?_
      unfold H5
      repeat' (first
        | with_reducible refine t_seq fun K => ?_
        | with_reducible refine t_block ?_
        | with_reducible refine t_scope ?_
        | with_reducible refine t_label ?_
        | with_reducible refine t_skip ?_
        | with_reducible refine t_exit ?_
        | with_reducible refine t_ret ?_
        | with_reducible refine t_k ?_
        | (with_reducible refine t_gF ?_)
        | ((first | with_reducible refine t_kE (t_openE ?_) | with_reducible refine t_kD (t_openD ?_) | with_reducible refine t_kE ?_ | with_reducible refine t_kD ?_ | with_reducible refine t_gS ?_ | with_reducible refine t_kL ?_ | (with_reducible refine t_kLE ?_ ?_; rotate_left) | with_reducible refine t_region fun K => ?_ | with_reducible refine t_draw (by kernel_rfl) fun K => ?_); (try (first | refine t_hideE fun KL => ?_ | refine t_hideD fun KL => ?_)); simp only [go_sem, geff_true, geff_false, kp42, con50_f, con79n_f, ecn79_f, ecn81_f, ecn82_f, con50_c, con79n_c, ecn79_c, ecn81_c, ecn82_c, strs_length, slS_sl, rkV_def, yes, hr, hn, hs'])
        | (with_reducible exact kp_nil)
        | (with_reducible exact Kp.refl _)
        | (with_reducible exact kp_to)
        | (with_reducible refine kp_cons ?_)
        | (with_reducible refine kp_arr ?_)
        | (with_reducible refine kp_app ?_)
        | ((with_reducible refine kp_skip ?_ ?_); rfl)
        | ((with_reducible refine t_cond fun A B => ?_); simp only [go_sem, geff_true, geff_false, kp42, con50_f, con79n_f, ecn79_f, ecn81_f, ecn82_f, con50_c, con79n_c, ecn79_c, ecn81_c, ecn82_c, strs_length, slS_sl, rkV_def, yes, hr, hn, hs']; first | (with_reducible refine A.h ?_) | (with_reducible refine B.h ?_) | (refine And.intro (fun hc => A.h ?_) (fun hc => B.h ?_)))
        | ((with_reducible refine t_geffS (fun hg => ?_) (fun hg => ?_)) <;> ((try simp only [Bool.not_eq_true', Bool.not_eq_false', Bool.and_eq_true, Bool.or_eq_false_iff] at hg); simp only [hg, go_sem, geff_true, geff_false, kp42, con50_f, con79n_f, ecn79_f, ecn81_f, ecn82_f, con50_c, con79n_c, ecn79_c, ecn81_c, ecn82_c, strs_length, slS_sl, rkV_def, yes, hr, hn, hs']))
        | simp only [thenQ_n, thenQ_r, thenQ_e, blockQ_n, blockQ_r, blockQ_e, scopeQ_n, scopeQ_r, scopeQ_e, Nat.reduceEqDiff, reduceIte]
        | (with_reducible refine And.intro ?_ ?_)
        | with_reducible intro vr)
      all_goals try (first | (with_reducible assumption) | (intros; (try simp only [Bool.and_eq_true, Bool.or_eq_true, Bool.or_eq_false_iff, Bool.not_eq_true', Bool.not_eq_false', decide_eq_true_eq, decide_eq_false_iff_not, beq_iff_eq, beq_eq_false_iff_ne, bne_iff_ne, bne_eq_false_iff_eq, ne_eq, inI64, List.length_append] at *) <;> omega))
      all_goals ((first | refine end_retE ?_ | refine end_normE ?_); simp only [fin, go_sem])
      · have hl0 : l = [] := List.eq_nil_of_length_eq_zero (by have := beq_iff_eq.1 hc; omega)
        rw [if_pos hl0] at hR
        exact sb_of hR.symm
      · rw [if_neg (by intro h; subst h; simp_all), if_pos hc] at hR
        exact sb_of hR.symm
      · rw [if_neg (by intro h; subst h; simp_all), if_neg (by rw [hc]; decide)] at hR
        exact sb_of hR.symm
noncomputable def con42 : PCon Try.prog where
  f := 42
  c := fun
    | [.lit (.string op), xl] => match slS xl with | some l => some (l.length ≤ 1000000, sbV (resultS op l)) | _ => none
    | _ => none
  ok := by
    intro args p r hc hp
    split at hc
    · split at hc
      · rename_i hl
        cases hc
        exact PC.weak (result_pc hp) ⟨LeA.refl _, slS_le hl, trivial⟩
      · cases hc
    · cases hc
  fk := fk42
theorem con42_f : con42.f = 42 := rfl
theorem con42_c {op : ByteArray} {xl : AV} : con42.c [.lit (.string op), xl] = match slS xl with | some l => some (l.length ≤ 1000000, sbV (resultS op l)) | _ => none := rfl
end Go.Proofs.Ytjlcbojpiieafaa

/- The element type of a result (reference). -/
namespace Go.Proofs.Ytjlcbojpiieafaa
open Go Go.Fw
set_option maxRecDepth 20000

end Go.Proofs.Ytjlcbojpiieafaa

/- The dimensions of a result (reference). -/
namespace Go.Proofs.Ytjlcbojpiieafaa
open Go Go.Fw

theorem find_no {op : ByteArray} {n : Int} (hno : eqS op ⟨#[105, 111, 116, 97]⟩ = false ∧ eqS op ⟨#[102, 105, 108, 108]⟩ = false ∧ eqS op ⟨#[116, 97, 107, 101]⟩ = false ∧ eqS op ⟨#[100, 114, 111, 112]⟩ = false ∧ eqS op ⟨#[114, 101, 118, 101, 114, 115, 101]⟩ = false ∧ eqS op ⟨#[97, 112, 112, 101, 110, 100]⟩ = false ∧ eqS op ⟨#[116, 114, 97, 110, 115, 112, 111, 115, 101]⟩ = false ∧ eqS op ⟨#[100, 105, 97, 103, 111, 110, 97, 108]⟩ = false ∧ eqS op ⟨#[119, 105, 110, 100, 111, 119, 115]⟩ = false ∧ eqS op ⟨#[99, 104, 117, 110, 107]⟩ = false ∧ eqS op ⟨#[105, 110, 100, 101, 120]⟩ = false ∧ eqS op ⟨#[117, 112, 100, 97, 116, 101]⟩ = false ∧ eqS op ⟨#[112, 97, 99, 107]⟩ = false) : (findS op n).2 = false := by
  obtain ⟨q0, q1, q2, q3, q4, q5, q6, q7, q8, q9, q10, q11, q12⟩ := hno
  simp only [findS, findG, ents, eqS_symm _ op]
  simp only [n_iota, n_fill, n_take, n_drop, n_reverse, n_append, n_transpose, n_diagonal, n_windows, n_chunk, n_index, n_update, n_pack, q0, q1, q2, q3, q4, q5, q6, q7, q8, q9, q10, q11, q12]
  rfl
theorem shape0 {ds : List (List Int)} (hl : ((([] : List Int).length : Nat) : Int) = ds.length) : ds = [] := by
  match ds, hl with
  | [], _ => rfl
  | _ :: _, hl => simp at hl; omega
theorem shape1 {r : Int} {ds : List (List Int)} (hl : ([r].length : Int) = ds.length) (hr : rkBad ds [r] = false) : ∃ a, ds = [a] ∧ (a.length : Int) = r := by
  match ds, hl, hr with
  | [a], _, hr => exact ⟨a, rfl, by simpa [rkBad] using hr⟩
  | [], hl, _ => simp at hl
  | _ :: _ :: _, hl, _ => simp only [List.length_cons, List.length_nil] at hl; omega
theorem shape2 {r s : Int} {ds : List (List Int)} (hl : ([r, s].length : Int) = ds.length) (hr : rkBad ds [r, s] = false) : ∃ a b, ds = [a, b] ∧ (a.length : Int) = r ∧ (b.length : Int) = s := by
  match ds, hl, hr with
  | [a, b], _, hr => exact ⟨a, b, rfl, by simpa [rkBad] using hr⟩
  | [], hl, _ => simp at hl
  | [_], hl, _ => simp at hl
  | _ :: _ :: _ :: _, hl, _ => simp only [List.length_cons, List.length_nil] at hl; omega
theorem shape3 {r s t : Int} {ds : List (List Int)} (hl : ([r, s, t].length : Int) = ds.length) (hr : rkBad ds [r, s, t] = false) : ∃ a b c, ds = [a, b, c] ∧ (a.length : Int) = r ∧ (b.length : Int) = s ∧ (c.length : Int) = t := by
  match ds, hl, hr with
  | [a, b, c], _, hr => exact ⟨a, b, c, rfl, by simpa [rkBad] using hr⟩
  | [], hl, _ => simp at hl
  | [_], hl, _ => simp at hl
  | [_, _], hl, _ => simp only [List.length_cons, List.length_nil] at hl; omega
  | _ :: _ :: _ :: _ :: _, hl, _ => simp only [List.length_cons, List.length_nil] at hl; omega
theorem len0 {a : List Int} (h : (a.length : Int) = 0) : a = [] := List.eq_nil_of_length_eq_zero (by omega)
theorem len1' {a : List Int} (h : (a.length : Int) = 1) : ∃ x, a = [x] := by
  match a, h with
  | [x], _ => exact ⟨x, rfl⟩
  | [], h => simp at h
  | _ :: _ :: _, h => simp only [List.length_cons] at h; omega
theorem len2' {a : List Int} (h : (a.length : Int) = 2) : ∃ x y, a = [x, y] := by
  match a, h with
  | [x, y], _ => exact ⟨x, y, rfl⟩
  | [], h => simp at h
  | [_], h => simp at h
  | _ :: _ :: _ :: _, h => simp only [List.length_cons] at h; omega
theorem giv_e {op : ByteArray} {n : Int} {e e' : Ent} (h : findS op n = (e, true)) (h' : findS op n = (e', true)) : e = e' := by rw [h] at h'; injection h'
end Go.Proofs.Ytjlcbojpiieafaa

/- The two ways to the element type of a result agree. -/
namespace Go.Proofs.Ytjlcbojpiieafaa
open Go Go.Fw

end Go.Proofs.Ytjlcbojpiieafaa

/- The primitives, one by one: their sizes, and the dimensions of what they take and give. -/
namespace Go.Proofs.Ytjlcbojpiieafaa
open Go Go.Fw

def dm (n : Int) : Prop := 0 ≤ n ∧ n ≤ 4096
inductive Shp : ByteArray → List Int → Int → List (List Int) → List Int → Prop
  | iota (k : Int) : dm k → Shp n_iota [k] 0 [] [k]
  | fill (k : Int) : dm k → Shp n_fill [k] 0 [[]] [k]
  | take (k n : Int) : dm k → dm n → k ≤ n → Shp n_take [k] 0 [[n]] [k]
  | drop (k n : Int) : dm k → dm n → k ≤ n → Shp n_drop [k] 0 [[n]] [n - k]
  | reverse (n : Int) : dm n → Shp n_reverse [] 0 [[n]] [n]
  | append (m n : Int) : dm m → dm n → Shp n_append [] 0 [[m], [n]] [m + n]
  | transpose (m n : Int) : dm m → dm n → Shp n_transpose [] 0 [[m, n]] [n, m]
  | diagonal (n : Int) : dm n → Shp n_diagonal [] 0 [[n, n]] [n]
  | windows (k n : Int) : dm k → dm n → k ≤ n → Shp n_windows [k] 0 [[n]] [n - k + 1, k]
  | chunk (c q : Int) : 1 ≤ c → c ≤ 64 → dm q → dm (q * c) → Shp n_chunk [] c [[q * c]] [q, c]
  | index (n : Int) : dm n → Shp n_index [] 0 [[n], []] []
  | update (n : Int) : dm n → Shp n_update [] 0 [[n], [], []] [n]
  | pack (m : Nat) : 1 ≤ m → m ≤ 4096 → Shp n_pack [] 0 (List.replicate m []) [(m : Int)]
theorem w64_dm {n : Int} (h : -9000000000000 ≤ n ∧ n ≤ 9000000000000) : w64 n = n := wrap_i64 (by unfold inI64; omega)
theorem partS_ok {k n : Int} (h : partS k n = 0) : 0 ≤ k ∧ k ≤ n := by
  unfold partS at h
  split at h
  · cases h
  · omega
theorem rk_pack : ∀ {ds : List (List Int)}, rkBad ds (List.replicate ds.length 0) = false → ds = List.replicate ds.length []
  | [], _ => rfl
  | a :: ds, h => by
    rw [List.length_cons, List.replicate_succ, rkBad] at h
    split at h
    · cases h
    · rename_i hne
      have ha : a = [] := len0 (by simpa using hne)
      rw [List.length_cons, List.replicate_succ, ← rk_pack h, ha]
set_option maxHeartbeats 1000000 in
theorem shp_of {op : ByteArray} {ns : List Int} {num : Int} {ds : List (List Int)} {d : List Int} (h : dimsI op ns num ds = (d, 0)) :
    Shp op ns num ds d ∧ (sizeS d).2 = 0 ∧ szErr ds = 0 ∧ ∃ e, givenS op ns.length num ds.length = (e, 0) := by
  unfold dimsI at h
  generalize hG : givenS op ns.length num ds.length = r at h
  obtain ⟨e, er⟩ := r
  simp only at h
  by_cases h0 : er = 0
  · subst h0
    rw [if_neg (by simp)] at h
    obtain ⟨-, hl, hw, hnum, -, hfs⟩ := given_ok hG
    by_cases hr : rkBad ds e.ranks = true
    · rw [if_pos hr] at h; cases h
    rw [if_neg hr] at h
    by_cases hz : szErr ds = 0
    · rw [if_neg (by simpa using hz)] at h
      have hr : rkBad ds e.ranks = false := by simpa using hr
      have hbd := ofSz hz
      unfold dimsOf at h
      by_cases h3 : (dimsS (e.dims.getD 0) (sizeK ns num) ds).2 = 0
      · rw [if_neg (by simpa using h3)] at h
        by_cases h4 : (sizeS (dimsS (e.dims.getD 0) (sizeK ns num) ds).1).2 = 0
        · rw [if_neg (by simpa using h4)] at h
          injection h with hd _
          subst hd
          refine ⟨?_, h4, hz, e, rfl⟩
          have hb4 := (sizeS_ok (n := (sizeS (dimsS (e.dims.getD 0) (sizeK ns num) ds).1).1) (Prod.ext rfl h4)).2.1
          clear h4 hG
          rcases op_cases op with rfl | rfl | rfl | rfl | rfl | rfl | rfl | rfl | rfl | rfl | rfl | rfl | rfl | hno
          · obtain rfl := giv_e hfs (show findS n_iota ds.length = (ents.getD 0 ent0, true) from rfl)
            simp only [ents, List.getD_cons_zero, List.getD_cons_succ, wantS, Option.getD_some, dimsS] at hl hw hr h3 hb4 ⊢
            obtain ⟨k, rfl⟩ := len1' (a := ns) (by simpa using hw)
            obtain rfl : num = 0 := by rcases hnum with h | h; exact h; cases h
            obtain rfl := shape0 hl
            simp only [sizeK, reduceCtorEq, if_false, List.getD_cons_zero, List.getD_cons_succ] at h3 hb4 ⊢
            have hk := hb4 k (by simp)
            exact .iota k hk
          · obtain rfl := giv_e hfs (show findS n_fill ds.length = (ents.getD 1 ent0, true) from rfl)
            simp only [ents, List.getD_cons_zero, List.getD_cons_succ, wantS, Option.getD_some, dimsS] at hl hw hr h3 hb4 ⊢
            obtain ⟨k, rfl⟩ := len1' (a := ns) (by simpa using hw)
            obtain rfl : num = 0 := by rcases hnum with h | h; exact h; cases h
            obtain ⟨a, rfl, ha⟩ := shape1 hl hr
            obtain rfl := len0 ha
            simp only [sizeK, reduceCtorEq, if_false, List.getD_cons_zero, List.getD_cons_succ] at h3 hb4 ⊢
            have hk := hb4 k (by simp)
            exact .fill k hk
          · obtain rfl := giv_e hfs (show findS n_take ds.length = (ents.getD 2 ent0, true) from rfl)
            simp only [ents, List.getD_cons_zero, List.getD_cons_succ, wantS, Option.getD_some, dimsS] at hl hw hr h3 hb4 ⊢
            obtain ⟨k, rfl⟩ := len1' (a := ns) (by simpa using hw)
            obtain rfl : num = 0 := by rcases hnum with h | h; exact h; cases h
            obtain ⟨a, rfl, ha⟩ := shape1 hl hr
            obtain ⟨n, rfl⟩ := len1' ha
            have hn := hbd [n] (by simp) n (by simp)
            simp only [sizeK, reduceCtorEq, if_false, List.getD_cons_zero, List.getD_cons_succ] at h3 hb4 ⊢
            have hk := hb4 k (by simp)
            have hp := partS_ok h3
            exact .take k n hk hn hp.2
          · obtain rfl := giv_e hfs (show findS n_drop ds.length = (ents.getD 3 ent0, true) from rfl)
            simp only [ents, List.getD_cons_zero, List.getD_cons_succ, wantS, Option.getD_some, dimsS] at hl hw hr h3 hb4 ⊢
            obtain ⟨k, rfl⟩ := len1' (a := ns) (by simpa using hw)
            obtain rfl : num = 0 := by rcases hnum with h | h; exact h; cases h
            obtain ⟨a, rfl, ha⟩ := shape1 hl hr
            obtain ⟨n, rfl⟩ := len1' ha
            have hn := hbd [n] (by simp) n (by simp)
            simp only [sizeK, reduceCtorEq, if_false, List.getD_cons_zero, List.getD_cons_succ] at h3 hb4 ⊢
            have hp := partS_ok h3
            rw [w64_dm (by omega)]
            exact .drop k n ⟨hp.1, by omega⟩ hn hp.2
          · obtain rfl := giv_e hfs (show findS n_reverse ds.length = (ents.getD 4 ent0, true) from rfl)
            simp only [ents, List.getD_cons_zero, List.getD_cons_succ, wantS, Option.getD_some, dimsS] at hl hw hr h3 hb4 ⊢
            obtain rfl := len0 (a := ns) (by simpa using hw)
            obtain rfl : num = 0 := by rcases hnum with h | h; exact h; cases h
            obtain ⟨a, rfl, ha⟩ := shape1 hl hr
            obtain ⟨n, rfl⟩ := len1' ha
            have hn := hbd [n] (by simp) n (by simp)
            try simp only [sizeK, reduceIte, List.getD_cons_zero, List.getD_cons_succ] at h3 hb4 ⊢
            exact .reverse n hn
          · obtain rfl := giv_e hfs (show findS n_append ds.length = (ents.getD 5 ent0, true) from rfl)
            simp only [ents, List.getD_cons_zero, List.getD_cons_succ, wantS, Option.getD_some, dimsS] at hl hw hr h3 hb4 ⊢
            obtain rfl := len0 (a := ns) (by simpa using hw)
            obtain rfl : num = 0 := by rcases hnum with h | h; exact h; cases h
            obtain ⟨a, b, rfl, ha, hb⟩ := shape2 hl hr
            obtain ⟨m, rfl⟩ := len1' ha
            obtain ⟨n, rfl⟩ := len1' hb
            have hm := hbd [m] (by simp) m (by simp)
            have hn := hbd [n] (by simp) n (by simp)
            try simp only [sizeK, reduceIte, List.getD_cons_zero, List.getD_cons_succ] at h3 hb4 ⊢
            exact .append m n hm hn
          · obtain rfl := giv_e hfs (show findS n_transpose ds.length = (ents.getD 6 ent0, true) from rfl)
            simp only [ents, List.getD_cons_zero, List.getD_cons_succ, wantS, Option.getD_some, dimsS] at hl hw hr h3 hb4 ⊢
            obtain rfl := len0 (a := ns) (by simpa using hw)
            obtain rfl : num = 0 := by rcases hnum with h | h; exact h; cases h
            obtain ⟨a, rfl, ha⟩ := shape1 hl hr
            obtain ⟨m, n, rfl⟩ := len2' ha
            have hm := hbd [m, n] (by simp) m (by simp)
            have hn := hbd [m, n] (by simp) n (by simp)
            try simp only [sizeK, reduceIte, List.getD_cons_zero, List.getD_cons_succ] at h3 hb4 ⊢
            exact .transpose m n hm hn
          · obtain rfl := giv_e hfs (show findS n_diagonal ds.length = (ents.getD 7 ent0, true) from rfl)
            simp only [ents, List.getD_cons_zero, List.getD_cons_succ, wantS, Option.getD_some, dimsS] at hl hw hr h3 hb4 ⊢
            obtain rfl := len0 (a := ns) (by simpa using hw)
            obtain rfl : num = 0 := by rcases hnum with h | h; exact h; cases h
            obtain ⟨a, rfl, ha⟩ := shape1 hl hr
            obtain ⟨m, n, rfl⟩ := len2' ha
            have hm := hbd [m, n] (by simp) m (by simp)
            have hn := hbd [m, n] (by simp) n (by simp)
            try simp only [sizeK, reduceIte, List.getD_cons_zero, List.getD_cons_succ] at h3 hb4 ⊢
            by_cases he : m = n
            · subst he
              rw [if_neg (by simp)]
              exact .diagonal m hm
            · rw [if_pos he] at h3; cases h3
          · obtain rfl := giv_e hfs (show findS n_windows ds.length = (ents.getD 8 ent0, true) from rfl)
            simp only [ents, List.getD_cons_zero, List.getD_cons_succ, wantS, Option.getD_some, dimsS] at hl hw hr h3 hb4 ⊢
            obtain ⟨k, rfl⟩ := len1' (a := ns) (by simpa using hw)
            obtain rfl : num = 0 := by rcases hnum with h | h; exact h; cases h
            obtain ⟨a, rfl, ha⟩ := shape1 hl hr
            obtain ⟨n, rfl⟩ := len1' ha
            have hn := hbd [n] (by simp) n (by simp)
            simp only [sizeK, reduceCtorEq, if_false, List.getD_cons_zero, List.getD_cons_succ] at h3 hb4 ⊢
            have hp := partS_ok h3
            rw [w64_dm (n := n - k) (by omega), w64_dm (by omega)]
            exact .windows k n ⟨hp.1, by omega⟩ hn hp.2
          · obtain rfl := giv_e hfs (show findS n_chunk ds.length = (ents.getD 9 ent0, true) from rfl)
            simp only [ents, List.getD_cons_zero, List.getD_cons_succ, wantS, Option.getD_some, dimsS] at hl hw hr h3 hb4 ⊢
            obtain rfl := len0 (a := ns) (by simpa using hw)
            obtain ⟨a, rfl, ha⟩ := shape1 hl hr
            obtain ⟨n, rfl⟩ := len1' ha
            have hn := hbd [n] (by simp) n (by simp)
            try simp only [sizeK, reduceIte, List.getD_cons_zero, List.getD_cons_succ] at h3 hb4 ⊢
            by_cases hc : num < 1 ∨ num > 64
            · rw [if_pos hc] at h3; cases h3
            by_cases hm : n.tmod num = 0
            · rw [if_neg hc, if_neg (by simpa using hm)] at hb4 ⊢
              have hq := hb4 (n.tdiv num) (by simp)
              have e : n = n.tdiv num * num := by have := Int.tmod_add_mul_tdiv n num; rw [hm, Int.mul_comm] at this; omega
              generalize n.tdiv num = q at hq e
              subst e
              exact .chunk num q (by omega) (by omega) hq hn
            · rw [if_neg hc, if_pos (by simpa using hm)] at h3; cases h3
          · obtain rfl := giv_e hfs (show findS n_index ds.length = (ents.getD 10 ent0, true) from rfl)
            simp only [ents, List.getD_cons_zero, List.getD_cons_succ, wantS, Option.getD_some, dimsS] at hl hw hr h3 hb4 ⊢
            obtain rfl := len0 (a := ns) (by simpa using hw)
            obtain rfl : num = 0 := by rcases hnum with h | h; exact h; cases h
            obtain ⟨a, b, rfl, ha, hb⟩ := shape2 hl hr
            obtain ⟨n, rfl⟩ := len1' ha
            obtain rfl := len0 hb
            have hn := hbd [n] (by simp) n (by simp)
            try simp only [sizeK, reduceIte, List.getD_cons_zero, List.getD_cons_succ] at h3 hb4 ⊢
            exact .index n hn
          · obtain rfl := giv_e hfs (show findS n_update ds.length = (ents.getD 11 ent0, true) from rfl)
            simp only [ents, List.getD_cons_zero, List.getD_cons_succ, wantS, Option.getD_some, dimsS] at hl hw hr h3 hb4 ⊢
            obtain rfl := len0 (a := ns) (by simpa using hw)
            obtain rfl : num = 0 := by rcases hnum with h | h; exact h; cases h
            obtain ⟨a, b, c, rfl, ha, hb, hc⟩ := shape3 hl hr
            obtain ⟨n, rfl⟩ := len1' ha
            obtain rfl := len0 hb
            obtain rfl := len0 hc
            have hn := hbd [n] (by simp) n (by simp)
            try simp only [sizeK, reduceIte, List.getD_cons_zero, List.getD_cons_succ] at h3 hb4 ⊢
            exact .update n hn
          · obtain rfl := giv_e hfs (show findS n_pack ds.length = (packE ds.length, true) from rfl)
            simp only [ents, List.getD_cons_zero, List.getD_cons_succ, wantS, Option.getD_some, dimsS, packE] at hl hw hr h3 hb4 ⊢
            obtain rfl := len0 (a := ns) (by simpa using hw)
            obtain rfl : num = 0 := by rcases hnum with h | h; exact h; cases h
            have hlen := hb4 (ds.length : Int) (by simp)
            have e : (maxI (ds.length : Int) 1).toNat = ds.length := by simp only [List.length_replicate] at hl; omega
            rw [e] at hr
            have hds := rk_pack hr
            have h1 : 1 ≤ ds.length := by unfold maxI at e; split at e <;> omega
            rw [hds]
            simp only [List.length_replicate]
            exact .pack _ h1 (by omega)
          · exfalso
            have e2 := find_no (n := ds.length) hno
            rw [hfs] at e2
            cases e2
        · rw [if_pos (by simpa using h4)] at h; injection h with _ h2; exact absurd h2 h4
      · rw [if_pos (by simpa using h3)] at h; injection h with _ h2; exact absurd h2 h3
    · rw [if_pos (by simpa using hz)] at h; injection h with _ h2; exact absurd h2 hz
  · rw [if_pos h0] at h; injection h with _ h2; exact absurd h2 h0
end Go.Proofs.Ytjlcbojpiieafaa

/- Places and indices. -/
namespace Go.Proofs.Ytjlcbojpiieafaa
open Go Go.Fw

/-- The digits of a number, the last place first, by the dimensions from the last one on. -/
def digR : List Int → Int → List Int
  | [], _ => []
  | d :: t, o => o.tmod d :: digR t (o.tdiv d)
def idxS (d : List Int) (o : Int) : List Int × Int := if (sizeS d).2 ≠ 0 then ([], (sizeS d).2) else if o < 0 ∨ o ≥ (sizeS d).1 then ([], 2) else ((digR d.reverse o).reverse, 0)
def ixV (p : List Int × Int) : AV := .tup [.sl false 1 (ints .i64 p.1), .lit (.int .i64 p.2)]
theorem ixV_def {p : List Int × Int} : ixV p = .tup [.sl false 1 (ints .i64 p.1), .lit (.int .i64 p.2)] := rfl
theorem ixE_le {e : Int} : LeA (.tup [.lit (.slice none 0 0), .lit (.int .i64 e)]) (ixV ([], e)) := LeA.tup ⟨LeA.nil _ _, LeA.refl _, trivial⟩
theorem ints_set' (l : List Int) (i : Nat) (v : Int) : (ints .i64 l).set i (.lit (.int .i64 v)) = ints .i64 (l.set i v) := by simp [ints, List.map_set]
theorem set_rep (m : Nat) (T : List Int) (v : Int) : (List.replicate (m + 1) 0 ++ T).set m v = List.replicate m 0 ++ v :: T := by
  rw [List.replicate_succ', List.append_assoc, List.set_append_right _ _ (by simp)]
  simp
theorem getD_mem {α : Type} {l : List α} {i : Nat} (z : α) (h : i < l.length) : l.getD i z ∈ l := by
  rw [List.getD_eq_getElem?_getD, List.getElem?_eq_getElem h]; exact List.getElem_mem _
theorem tdm {o d : Int} (ho : 0 ≤ o) (hd : 1 ≤ d) : 0 ≤ o.tdiv d ∧ o.tdiv d ≤ o ∧ 0 ≤ o.tmod d ∧ o.tmod d < d := by
  rw [Int.tdiv_eq_ediv_of_nonneg ho, Int.tmod_eq_emod_of_nonneg ho]
  exact ⟨Int.ediv_nonneg ho (by omega), Int.ediv_le_self _ ho, Int.emod_nonneg _ (by omega), Int.emod_lt_of_pos _ (by omega)⟩
/-- Where there is a place, no dimension is 0. -/
theorem dims_pos {d : List Int} {n o : Int} (hS : sizeS d = (n, 0)) (ho : 0 ≤ o) (hn : o < n) : ∀ x ∈ d, 1 ≤ x := by
  obtain ⟨_, h2, h3, _⟩ := sizeS_ok hS
  exact not_any_zero h2 fun h => by rw [h3, prI_zero h] at hn; omega
structure Li (d : List Int) (G : List Int) where
  i : Nat
  o : Int
  T : List Int
  hi : i ≤ d.length
  ho : 0 ≤ o ∧ o ≤ 4096
  hT : T.length = i
  hF : (digR (d.reverse.drop i) o).reverse ++ T = G
noncomputable def E42 : Env := envOf (P := Try.prog) zer (fun _ => false) (fun _ => false) [con65] []
theorem E42_ok : EnvOk Try.prog E42 := envOk zer_ok
set_option maxRecDepth 20000 in
set_option maxHeartbeats 4000000 in
theorem idx_pc {d : List Int} {o : Int} (hl : d.length ≤ 1000000) : PC Try.prog 95 [.sl false 1 (ints .i64 d), .lit (.int .i64 o)] (ixV (idxS d o)) := by
  unfold idxS
  generalize hS : sizeS d = s
  obtain ⟨n, er⟩ := s
  simp only
  by_cases e0 : er = 0
  · subst e0
    rw [if_neg (by simp)]
    by_cases o1 : o < 0
    · have o1' : decide (o < 0) = true := decide_eq_true o1
      rw [if_pos (.inl o1)]
      refine pc_of E42_ok mixed (fun _ => [0, 1, 4, 5, 6, 7, 8, 9, 10, 17, 25, 30, 31, 32]) Try.func95 rfl (by kernel_rfl) (Nat.le_of_ble_eq_true rfl) ?_
      simp only [initF_cons, initF_nil, Nat.reduceAdd]
      refine t_name fun KF => ?_
      unfold E42
      repeat' (first
       | (with_reducible first | refine t_seq fun K => ?_ | refine t_block ?_ | refine t_scope ?_ | refine t_label ?_ | refine t_skip ?_ | refine t_exit ?_ | refine t_ret ?_ | refine t_k ?_ | refine t_gF ?_ | exact kp_nil | exact Kp.refl _ | exact kp_to | refine kp_cons ?_ | refine kp_arr ?_ | refine kp_app ?_ | refine t_p ?_ | refine t_br (fun hc => ?_) fun hc => ?_)
       | ((with_reducible first | refine t_kE ?_ | refine t_kD ?_ | refine t_gS ?_ | refine t_kL ?_ | refine t_kLF ?_ ?_ | refine t_region fun K => ?_ | refine t_cond fun A B => ?_ | refine t_draw (by kernel_rfl) fun K => ?_); simp only [go_sem, geff, con65_f, con65_c, slK_sl, hS, szV_def, o1'])
       | ((with_reducible refine kp_skip ?_ ?_); rfl) | simp only [thenQ, blockQ, scopeQ, Nat.reduceEqDiff, reduceIte] | (with_reducible first | refine And.intro ?_ ?_ | intro vr))
      all_goals try (intros; (try simp only [Bool.and_eq_true, Bool.or_eq_true, Bool.not_eq_true', decide_eq_true_eq, decide_eq_false_iff_not, beq_iff_eq, bne_iff_ne, ne_eq, inI64, List.length_append] at *) <;> omega)
      refine end_ret rfl ?_
      simp only [fin, go_sem]
      exact ixE_le
    · have o1' : decide (o < 0) = false := decide_eq_false o1
      by_cases o2 : o ≥ n
      · have o2' : decide (o ≥ n) = true := decide_eq_true o2
        rw [if_pos (.inr o2)]
        refine pc_of E42_ok mixed (fun _ => [0, 1, 4, 5, 6, 7, 8, 9, 10, 17, 25, 30, 31, 32]) Try.func95 rfl (by kernel_rfl) (Nat.le_of_ble_eq_true rfl) ?_
        simp only [initF_cons, initF_nil, Nat.reduceAdd]
        refine t_name fun KF => ?_
        unfold E42
        repeat' (first
         | (with_reducible first | refine t_seq fun K => ?_ | refine t_block ?_ | refine t_scope ?_ | refine t_label ?_ | refine t_skip ?_ | refine t_exit ?_ | refine t_ret ?_ | refine t_k ?_ | refine t_gF ?_ | exact kp_nil | exact Kp.refl _ | exact kp_to | refine kp_cons ?_ | refine kp_arr ?_ | refine kp_app ?_ | refine t_p ?_ | refine t_br (fun hc => ?_) fun hc => ?_)
         | ((with_reducible first | refine t_kE ?_ | refine t_kD ?_ | refine t_gS ?_ | refine t_kL ?_ | refine t_kLF ?_ ?_ | refine t_region fun K => ?_ | refine t_cond fun A B => ?_ | refine t_draw (by kernel_rfl) fun K => ?_); simp only [go_sem, geff, con65_f, con65_c, slK_sl, hS, szV_def, o1', o2'])
         | ((with_reducible refine kp_skip ?_ ?_); rfl) | simp only [thenQ, blockQ, scopeQ, Nat.reduceEqDiff, reduceIte] | (with_reducible first | refine And.intro ?_ ?_ | intro vr))
        all_goals try (intros; (try simp only [Bool.and_eq_true, Bool.or_eq_true, Bool.not_eq_true', decide_eq_true_eq, decide_eq_false_iff_not, beq_iff_eq, bne_iff_ne, ne_eq, inI64, List.length_append] at *) <;> omega)
        refine end_ret rfl ?_
        simp only [fin, go_sem]
        exact ixE_le
      · have o2' : decide (o ≥ n) = false := decide_eq_false o2
        rw [if_neg (by omega)]
        have hn := (sizeS_ok hS).2.2.2
        have hp := dims_pos hS (by omega) (show o < n by omega)
        generalize hG : (digR d.reverse o).reverse = G
        refine pc_of E42_ok mixed (fun _ => [0, 1, 4, 5, 6, 7, 8, 9, 10, 17, 25, 30, 31, 32]) Try.func95 rfl (by kernel_rfl) (Nat.le_of_ble_eq_true rfl) ?_
        simp only [initF_cons, initF_nil, Nat.reduceAdd]
        refine t_name fun KF => ?_
        unfold E42
        repeat' (first
         | (with_reducible first | refine t_seq fun K => ?_ | refine t_block ?_ | refine t_scope ?_ | refine t_label ?_ | refine t_skip ?_ | refine t_exit ?_ | refine t_ret ?_ | refine t_k ?_ | refine t_gF ?_ | exact kp_nil | exact Kp.refl _ | exact kp_to | refine kp_cons ?_ | refine kp_arr ?_ | refine kp_app ?_ | refine t_p ?_ | refine t_br (fun hc => ?_) fun hc => ?_)
         | ((with_reducible first | refine t_kE ?_ | refine t_kD ?_ | refine t_gS ?_ | refine t_kL ?_ | refine t_kLF ?_ ?_ | refine t_region fun K => ?_ | refine t_cond fun A B => ?_ | refine t_draw (by kernel_rfl) fun K => ?_); simp only [go_sem, geff, con65_f, con65_c, slK_sl, hS, szV_def, o1', o2', rep_ints, Int.toNat_natCast])
         | ((with_reducible refine kp_skip ?_ ?_); rfl) | simp only [thenQ, blockQ, scopeQ, Nat.reduceEqDiff, reduceIte] | (with_reducible first | refine And.intro ?_ ?_ | intro vr))
        all_goals try (intros; (try simp only [Bool.and_eq_true, Bool.or_eq_true, Bool.not_eq_true', decide_eq_true_eq, decide_eq_false_iff_not, beq_iff_eq, bne_iff_ne, ne_eq, inI64, List.length_append] at *) <;> omega)
        refine t_loop (ι := Li d G) (fun i => ⟨upd (upd (upd (upd (upd topF 8 (.arr 0 0)) 1 (.lit (.int .i64 i.o))) 0 (.sl false 1 (ints .i64 d))) 31 (.lit (.int .i64 i.i))) 30 (.lit (.int .i64 d.length)), [.arr 3 1 (ints .i64 (List.replicate (d.length - i.i) 0 ++ i.T)) 0 false]⟩) (fun i => d.length - i.i) ⟨0, o, [], by omega, by omega, rfl, by simpa using hG⟩ ?_ ?_
        · skip
          (refine Le.frameS ?gs1 ?_; rotate_left; repeat' (first | exact leF_top _ | (with_reducible refine leF_sl ?_ ?_) | (refine leF_upd (LeR.of_eq ?_) ?_))) <;> (try (simp only [go_sem]; try rfl))
          all_goals (first | omega | simp)
        · rintro ⟨i, v, T, hi, hv, hT, hF⟩ K0
          rcases Nat.lt_or_ge i d.length with hc | hc
          · have g1 : decide ((i : Int) < (d.length : Int)) = true := decide_eq_true (by omega)
            have hi1 : ((d.length : Int) - 1 - (i : Int)).toNat = d.length - 1 - i := by omega
            have g2 := ints_getD .i64 d (d.length - 1 - i) (by omega)
            have hq := hp _ (getD_mem 0 (show d.length - 1 - i < d.length by omega))
            have hrv : d.reverse.drop i = d.getD (d.length - 1 - i) 0 :: d.reverse.drop (i + 1) := by
              rw [List.drop_eq_getElem_cons (by simpa using hc), List.getElem_reverse, List.getD_eq_getElem?_getD, List.getElem?_eq_getElem (by omega)]
              rfl
            rw [hrv, digR, List.reverse_cons, List.append_assoc] at hF
            generalize d.getD (d.length - 1 - i) 0 = q at g2 hq hF
            have z1 : (q == 0) = false := by rw [beq_eq_false_iff_ne]; omega
            have ht := tdm hv.1 hq
            have hst : (List.replicate (d.length - i) 0 ++ T).set (d.length - 1 - i) (v.tmod q) = List.replicate (d.length - (i + 1)) 0 ++ v.tmod q :: T := by
              have := set_rep (d.length - 1 - i) T (v.tmod q)
              rwa [show d.length - 1 - i + 1 = d.length - i by omega, show List.replicate (d.length - 1 - i) (0 : Int) = List.replicate (d.length - (i + 1)) 0 by congr 1; omega] at this
            have hln : (List.replicate (d.length - i) (0 : Int) ++ T).length = d.length := by simp [hT]; omega
            repeat' (first
             | (with_reducible first | refine t_seq fun K => ?_ | refine t_block ?_ | refine t_scope ?_ | refine t_label ?_ | refine t_skip ?_ | refine t_exit ?_ | refine t_ret ?_ | refine t_k ?_ | refine t_gF ?_ | exact kp_nil | exact Kp.refl _ | exact kp_to | refine kp_cons ?_ | refine kp_arr ?_ | refine kp_app ?_ | refine t_p ?_ | refine t_br (fun hc => ?_) fun hc => ?_)
             | ((with_reducible first | refine t_kE ?_ | refine t_kD ?_ | refine t_gS ?_ | refine t_kL ?_ | refine t_kLF ?_ ?_ | refine t_region fun K => ?_ | refine t_cond fun A B => ?_ | refine t_draw (by kernel_rfl) fun K => ?_); simp only [go_sem, geff, con65_f, g1, hi1, g2, z1, ints_set', hst, hln, ints_length, Int.toNat_natCast])
             | ((with_reducible refine kp_skip ?_ ?_); rfl) | simp only [thenQ, blockQ, scopeQ, Nat.reduceEqDiff, reduceIte] | (with_reducible first | refine And.intro ?_ ?_ | intro vr))
            all_goals try (intros; (try simp only [Bool.and_eq_true, Bool.or_eq_true, Bool.not_eq_true', decide_eq_true_eq, decide_eq_false_iff_not, beq_iff_eq, bne_iff_ne, ne_eq, inI64, List.length_append] at *) <;> omega)
            refine ⟨⟨i + 1, v.tdiv q, v.tmod q :: T, by omega, by omega, by simp [hT], hF⟩, by simp only; omega, ?_⟩
            (refine Le.frame ?_; repeat' (first | exact leF_top _ | (with_reducible refine leF_sl ?_ ?_) | (refine leF_upd (LeR.of_eq ?_) ?_))) <;> (try (simp only [go_sem]; try rfl))
            
          · have g1 : decide ((i : Int) < (d.length : Int)) = false := decide_eq_false (by omega)
            have : i = d.length := by omega
            subst this
            rw [List.drop_eq_nil_of_le (by simp), digR] at hF
            simp only [List.reverse_nil, List.nil_append] at hF
            subst hF
            repeat' (first
             | (with_reducible first | refine t_seq fun K => ?_ | refine t_block ?_ | refine t_scope ?_ | refine t_label ?_ | refine t_skip ?_ | refine t_exit ?_ | refine t_ret ?_ | refine t_k ?_ | refine t_gF ?_ | exact kp_nil | exact Kp.refl _ | exact kp_to | refine kp_cons ?_ | refine kp_arr ?_ | refine kp_app ?_ | refine t_p ?_ | refine t_br (fun hc => ?_) fun hc => ?_)
             | ((with_reducible first | refine t_kE ?_ | refine t_kD ?_ | refine t_gS ?_ | refine t_kL ?_ | refine t_kLF ?_ ?_ | refine t_region fun K => ?_ | refine t_cond fun A B => ?_ | refine t_draw (by kernel_rfl) fun K => ?_); simp only [go_sem, geff, con65_f, g1, Nat.sub_self, List.replicate_zero])
             | ((with_reducible refine kp_skip ?_ ?_); rfl) | simp only [thenQ, blockQ, scopeQ, Nat.reduceEqDiff, reduceIte] | (with_reducible first | refine And.intro ?_ ?_ | intro vr))
            refine end_ret rfl ?_
            simp only [fin, go_sem]
            exact LeA.refl _
  · have e1 : (er != 0) = true := bne_iff_ne.2 e0
    rw [if_pos e0]
    refine pc_of E42_ok mixed (fun _ => [0, 1, 4, 5, 6, 7, 8, 9, 10, 17, 25, 30, 31, 32]) Try.func95 rfl (by kernel_rfl) (Nat.le_of_ble_eq_true rfl) ?_
    simp only [initF_cons, initF_nil, Nat.reduceAdd]
    refine t_name fun KF => ?_
    unfold E42
    repeat' (first
     | (with_reducible first | refine t_seq fun K => ?_ | refine t_block ?_ | refine t_scope ?_ | refine t_label ?_ | refine t_skip ?_ | refine t_exit ?_ | refine t_ret ?_ | refine t_k ?_ | refine t_gF ?_ | exact kp_nil | exact Kp.refl _ | exact kp_to | refine kp_cons ?_ | refine kp_arr ?_ | refine kp_app ?_ | refine t_p ?_ | refine t_br (fun hc => ?_) fun hc => ?_)
     | ((with_reducible first | refine t_kE ?_ | refine t_kD ?_ | refine t_gS ?_ | refine t_kL ?_ | refine t_kLF ?_ ?_ | refine t_region fun K => ?_ | refine t_cond fun A B => ?_ | refine t_draw (by kernel_rfl) fun K => ?_); simp only [go_sem, geff, con65_f, con65_c, slK_sl, hS, szV_def, e1])
     | ((with_reducible refine kp_skip ?_ ?_); rfl) | simp only [thenQ, blockQ, scopeQ, Nat.reduceEqDiff, reduceIte] | (with_reducible first | refine And.intro ?_ ?_ | intro vr))
    all_goals try (intros; (try simp only [Bool.and_eq_true, Bool.or_eq_true, Bool.not_eq_true', decide_eq_true_eq, decide_eq_false_iff_not, beq_iff_eq, bne_iff_ne, ne_eq, inI64, List.length_append] at *) <;> omega)
    refine end_ret rfl ?_
    simp only [fin, go_sem]
    exact ixE_le
noncomputable def con95 : PCon Try.prog where
  f := 95
  c := fun
    | [xd, .lit (.int .i64 o)] => match slK .i64 xd with | some d => some (d.length ≤ 1000000, ixV (idxS d o)) | _ => none
    | _ => none
  ok := by
    intro args p r hc hp
    split at hc
    · split at hc
      · rename_i hd
        cases hc
        exact PC.weak ((fun hp : _ => idx_pc hp) hp) ⟨slK_le hd, LeA.refl _, trivial⟩
      · cases hc
    · cases hc
  fk := fk95
theorem con95_f : con95.f = 95 := rfl
theorem con95_c {xd : AV} {o : Int} : con95.c [xd, .lit (.int .i64 o)] = match slK .i64 xd with | some d => some (d.length ≤ 1000000, ixV (idxS d o)) | _ => none := rfl
end Go.Proofs.Ytjlcbojpiieafaa

/- Indices of places: plain facts. -/
namespace Go.Proofs.Ytjlcbojpiieafaa
open Go Go.Fw

def digF : List Int → Int → List Int
  | [], _ => []
  | _ :: t, o => o / prI t :: digF t (o % prI t)
theorem prI_rev : ∀ l : List Int, prI l.reverse = prI l
  | [] => rfl
  | d :: t => by rw [List.reverse_cons, prI_app, prI_rev t, prI, prI, prI, Int.mul_one, Int.mul_comm]
theorem digR_app : ∀ (l : List Int) (d o : Int), (∀ x ∈ l, 1 ≤ x) → 0 ≤ o → digR (l ++ [d]) o = digR l o ++ [(o / prI l).tmod d]
  | [], d, o, _, h => by simp [digR, prI]
  | x :: l, d, o, hl, h => by
    have hx := hl x (by simp)
    have h1 : o.tdiv x = o / x := Int.tdiv_eq_ediv_of_nonneg h
    have h2 : 0 ≤ o / x := Int.ediv_nonneg h (by omega)
    rw [List.cons_append, digR, digR, List.cons_append, h1, digR_app l d _ (fun y hy => hl y (by simp [hy])) h2, prI, Int.ediv_ediv_of_nonneg (by omega)]
theorem digR_mod : ∀ (l : List Int) (o : Int), (∀ x ∈ l, 1 ≤ x) → 0 ≤ o → digR l (o % prI l) = digR l o
  | [], _, _, _ => rfl
  | x :: l, o, hl, h => by
    have hx := hl x (by simp)
    have ht : ∀ y ∈ l, 1 ≤ y := fun y hy => hl y (by simp [hy])
    have hp := prI_pos ht
    have h0 : 0 ≤ o % (x * prI l) := Int.emod_nonneg _ (by have := Int.mul_pos (show 0 < x by omega) (show 0 < prI l by omega); omega)
    rw [prI, digR, digR, Int.tmod_eq_emod_of_nonneg h0, Int.tmod_eq_emod_of_nonneg h, Int.tdiv_eq_ediv_of_nonneg h0, Int.tdiv_eq_ediv_of_nonneg h, Int.emod_emod_of_dvd o ⟨prI l, rfl⟩]
    have e : o % (x * prI l) / x = (o / x) % prI l := by
      have h1 := Int.emod_add_mul_ediv o (x * prI l)
      have h2 := Int.emod_add_mul_ediv (o / x) (prI l)
      rw [Int.ediv_ediv_of_nonneg (by omega)] at h2
      have h3 : o = o % (x * prI l) + x * (prI l * (o / (x * prI l))) := by rw [← Int.mul_assoc]; omega
      have h4 : o / x = o % (x * prI l) / x + prI l * (o / (x * prI l)) := by
        conv => lhs; rw [h3]
        rw [Int.add_mul_ediv_left _ _ (by omega)]
      omega
    rw [e, digR_mod l _ ht (Int.ediv_nonneg h (by omega))]
theorem dig_eq : ∀ (d : List Int) (o : Int), (∀ x ∈ d, 1 ≤ x) → 0 ≤ o → o < prI d → (digR d.reverse o).reverse = digF d o
  | [], _, _, _, _ => rfl
  | d :: t, o, hl, h, hb => by
    have hd := hl d (by simp)
    have ht : ∀ y ∈ t, 1 ≤ y := fun y hy => hl y (by simp [hy])
    have hr : ∀ y ∈ t.reverse, 1 ≤ y := fun y hy => ht y (List.mem_reverse.1 hy)
    have hp := prI_pos ht
    have h1 : 0 ≤ o / prI t := Int.ediv_nonneg h (by omega)
    have h2 : o / prI t < d := Int.ediv_lt_of_lt_mul (by omega) hb
    rw [List.reverse_cons, digR_app _ _ _ hr h, List.reverse_append, prI_rev]
    have e : digR t.reverse o = digR t.reverse (o % prI t) := by
      have := digR_mod t.reverse o hr h
      rw [prI_rev] at this; exact this.symm
    rw [e, digF, List.reverse_cons, List.reverse_nil, List.nil_append, List.singleton_append, Int.tmod_eq_emod_of_nonneg h1, Int.emod_eq_of_lt h1 h2,
      dig_eq t _ ht (Int.emod_nonneg _ (by omega)) (Int.emod_lt_of_pos _ (by omega))]
theorem idx_ok {d : List Int} {n p : Int} (hS : sizeS d = (n, 0)) (h : 0 ≤ p) (hb : p < n) : idxS d p = (digF d p, 0) ∧ (∀ x ∈ d, 1 ≤ x) ∧ n = prI d := by
  have hn := (sizeS_ok hS).2.2.1
  have hp := dims_pos hS h hb
  refine ⟨?_, hp, hn⟩
  unfold idxS
  rw [hS]
  simp only
  rw [if_neg (by simp), if_neg (by omega), dig_eq d p hp h (by omega)]
end Go.Proofs.Ytjlcbojpiieafaa

/- Elements of index and update; elements that are only moved. -/
namespace Go.Proofs.Ytjlcbojpiieafaa
open Go Go.Fw
set_option maxRecDepth 20000

theorem cloneI_ec {σ : List AObj} {l : List Int} {k : AV → List AObj → Prop} (hl : l.length ≤ 1000000) (hk : k (.arr σ.length 0) (σ ++ [.arr 3 1 (ints .i64 l) 0 false])) : EC Try.prog 61 [.sl false 1 (ints .i64 l)] σ k := by
  refine EC.nilArr 3 1 ?_
  refine ec_ofR F1_ok mixed (kp61) (rs := [.tmp 2]) Try.func61 rfl (by kernel_rfl) (by kernel_rfl) (Nat.le_of_ble_eq_true rfl) ?_
  simp only [initF_cons, initF_nil, Nat.reduceAdd]
  refine t_name fun KF => ?_
  unfold F1
  repeat' (first
   | (with_reducible first | refine t_seq fun K => ?_ | refine t_block ?_ | refine t_scope ?_ | refine t_label ?_ | refine t_skip ?_ | refine t_exit ?_ | refine t_ret ?_ | refine t_k ?_ | refine t_gF ?_ | exact kp_nil | exact Kp.refl _ | exact kp_to | refine kp_cons ?_ | refine kp_arr ?_ | refine kp_app ?_ | refine t_p ?_ | refine t_br (fun hc => ?_) fun hc => ?_)
   | ((with_reducible first | refine t_kE (t_openE ?_) | refine t_kD (t_openD ?_) | refine t_kE ?_ | refine t_kD ?_ | refine t_gS ?_ | refine t_kL ?_ | refine t_kLF ?_ ?_ | refine t_region fun K => ?_ | refine t_cond fun A B => ?_ | refine t_draw (by kernel_rfl) fun K => ?_); (try (first | refine t_hideE fun KL => ?_ | refine t_hideD fun KL => ?_)); simp only [go_sem, geff, kp61])
   | ((with_reducible refine kp_skip ?_ ?_); rfl) | simp only [thenQ, blockQ, scopeQ, Nat.reduceEqDiff, reduceIte] | (with_reducible first | refine And.intro ?_ ?_ | intro vr))
  all_goals try (first | (with_reducible assumption) | (intros; (try simp only [Bool.and_eq_true, Bool.or_eq_true, Bool.or_eq_false_iff, Bool.not_eq_true', Bool.not_eq_false', decide_eq_true_eq, decide_eq_false_iff_not, beq_iff_eq, beq_eq_false_iff_ne, bne_iff_ne, bne_eq_false_iff_eq, ne_eq, inI64, List.length_append] at *) <;> omega))
  all_goals ((first | refine end_retE ?_ | refine end_normE ?_); simp only [fin, go_sem])
  · exact .inr (by simp_all [ints])
  · exact .inl hk
noncomputable def ecn61 : ECon Try.prog where
  f := 61
  c := fun args σ k => match args with
    | [xl] => match slK .i64 xl with | some l => l.length ≤ 1000000 ∧ k (.arr σ.length 0) (σ ++ [.arr 3 1 (ints .i64 l) 0 false]) | _ => False
    | _ => False
  ok := by
    intro args σ k h
    split at h
    · split at h
      · rename_i hl
        exact EC.weak (cloneI_ec h.1 h.2) (LeRL.cons (slK_leR hl) (LeRL.nil))
      · exact h.elim
    · exact h.elim
  fk := fk61
theorem ecn61_f : ecn61.f = 61 := rfl
theorem ecn61_c {xl : AV} {σ : List AObj} {k : AV → List AObj → Prop} : ecn61.c [xl] σ k = match slK .i64 xl with | some l => l.length ≤ 1000000 ∧ k (.arr σ.length 0) (σ ++ [.arr 3 1 (ints .i64 l) 0 false]) | _ => False := rfl
def ibV (r : List Int × Bool) : AV := .tup [.sl false 1 (ints .i64 r.1), .lit (.bool r.2)]
theorem ib_of {x : AV} {n : Bool} {l : List Int} {r : List Int × Bool} (h : slK .i64 x = some l) (e : r = (l, n)) : LeA (.tup [x, .lit (.bool n)]) (ibV r) := by
  subst e; exact LeA.tup ⟨slK_le h, LeA.refl _, trivial⟩
theorem ibV_def {r : List Int × Bool} : ibV r = .tup [.sl false 1 (ints .i64 r.1), .lit (.bool r.2)] := rfl
def outS (a b : Arr) : Bool := decide (b.x.getD 0 0 < 0) || decide (b.x.getD 0 0 ≥ (a.x.length : Int))
def checkedS (op : ByteArray) (cs : List Arr) : List Int × Bool :=
  let a := cs.getD 0 nilA
  let b := cs.getD 1 nilA
  if (eqS op n_index && outS a b) = true then ([0], true)
  else if eqS op n_index = true then ([a.x.getD (b.x.getD 0 0).toNat 0], false)
  else if outS a b = true then (a.x, true)
  else (a.x.set (b.x.getD 0 0).toNat ((cs.getD 2 nilA).x.getD 0 0), false)
theorem arrV_def' {a : Arr} : arrV a = .agg [.lit (.string a.e), .sl false 1 (ints .i64 a.d), .sl false 1 (ints .i64 a.x)] := rfl
noncomputable def I1 : Env := envJ (P := Try.prog) jk2 zer (fun _ => false) (fun _ => false) [] [ecn61]
theorem I1_ok : EnvOk Try.prog I1 := envJOk zer_ok
set_option maxHeartbeats 4000000 in
theorem checked_pc {op : ByteArray} {cs : List Arr} (h2 : 2 ≤ cs.length) (h3 : eqS op n_index = false → 3 ≤ cs.length ∧ 0 < (cs.getD 2 nilA).x.length) (hb : 0 < (cs.getD 1 nilA).x.length) (ha : (cs.getD 0 nilA).x.length ≤ 1000000) :
    PC Try.prog 73 [.lit (.string op), .sl false 3 (arrs cs)] (ibV (checkedS op cs)) := by
  generalize hR : checkedS op cs = R
  unfold checkedS at hR
  simp only [show outS (cs.getD 0 nilA) (cs.getD 1 nilA) = (decide ((cs.getD 1 nilA).x.getD 0 0 < 0) || decide ((cs.getD 1 nilA).x.getD 0 0 ≥ ((cs.getD 0 nilA).x.length : Int))) from rfl] at hR
  cases hi : eqS op n_index with
  | true =>
    have hi' : eqS op ⟨#[105, 110, 100, 101, 120]⟩ = true := hi
    refine pc_ofR I1_ok mixed (kp73) (rs := [.tmp 4, .tmp 5]) Try.func73 rfl (by kernel_rfl) (by kernel_rfl) (Nat.le_of_ble_eq_true rfl) ?_
    simp only [initF_cons, initF_nil, Nat.reduceAdd]
    refine t_name fun KF => ?_
    unfold I1
    repeat' (first
     | (with_reducible first | refine t_seq fun K => ?_ | refine t_block ?_ | refine t_scope ?_ | refine t_label ?_ | refine t_skip ?_ | refine t_exit ?_ | refine t_ret ?_ | refine t_k ?_ | refine t_gF ?_ | exact kp_nil | exact Kp.refl _ | exact kp_to | refine kp_cons ?_ | refine kp_arr ?_ | refine kp_app ?_ | refine t_p ?_ | refine t_br (fun hc => ?_) fun hc => ?_)
     | ((with_reducible first | refine t_kE (t_openE ?_) | refine t_kD (t_openD ?_) | refine t_kE ?_ | refine t_kD ?_ | refine t_gS ?_ | refine t_kL ?_ | refine t_kLF ?_ ?_ | refine t_region fun K => ?_ | refine t_cond fun A B => ?_ | refine t_draw (by kernel_rfl) fun K => ?_); (try (first | refine t_hideE fun KL => ?_ | refine t_hideD fun KL => ?_)); simp only [go_sem, geff, kp73, ecn61_f, ecn61_c, arrs_length, arrV_def', slK_sl, hi'])
     | ((with_reducible refine kp_skip ?_ ?_); rfl) | simp only [thenQ, blockQ, scopeQ, Nat.reduceEqDiff, reduceIte] | (with_reducible first | refine And.intro ?_ ?_ | intro vr))
    all_goals try (first | (with_reducible assumption) | (intros; (try simp only [Bool.and_eq_true, Bool.or_eq_true, Bool.or_eq_false_iff, Bool.not_eq_true', Bool.not_eq_false', decide_eq_true_eq, decide_eq_false_iff_not, beq_iff_eq, beq_eq_false_iff_ne, bne_iff_ne, bne_eq_false_iff_eq, ne_eq, inI64, List.length_append] at *) <;> omega))
    all_goals ((first | refine end_retE ?_ | refine end_normE ?_); simp only [fin, go_sem])
    · rw [hi, if_pos (by rw [hc]; rfl)] at hR
      exact ib_of (by first | exact slK_sl | rfl) hR.symm
    · rw [hi, if_neg (by rw [hc]; decide), if_pos rfl] at hR
      exact ib_of (by first | exact slK_sl | rfl) hR.symm
  | false =>
    have hi' : eqS op ⟨#[105, 110, 100, 101, 120]⟩ = false := hi
    obtain ⟨h3, hc⟩ := h3 hi
    refine pc_ofR I1_ok mixed (kp73) (rs := [.tmp 4, .tmp 5]) Try.func73 rfl (by kernel_rfl) (by kernel_rfl) (Nat.le_of_ble_eq_true rfl) ?_
    simp only [initF_cons, initF_nil, Nat.reduceAdd]
    refine t_name fun KF => ?_
    unfold I1
    repeat' (first
     | (with_reducible first | refine t_seq fun K => ?_ | refine t_block ?_ | refine t_scope ?_ | refine t_label ?_ | refine t_skip ?_ | refine t_exit ?_ | refine t_ret ?_ | refine t_k ?_ | refine t_gF ?_ | exact kp_nil | exact Kp.refl _ | exact kp_to | refine kp_cons ?_ | refine kp_arr ?_ | refine kp_app ?_ | refine t_p ?_ | refine t_br (fun hc => ?_) fun hc => ?_)
     | ((with_reducible first | refine t_kE (t_openE ?_) | refine t_kD (t_openD ?_) | refine t_kE ?_ | refine t_kD ?_ | refine t_gS ?_ | refine t_kL ?_ | refine t_kLF ?_ ?_ | refine t_region fun K => ?_ | refine t_cond fun A B => ?_ | refine t_draw (by kernel_rfl) fun K => ?_); (try (first | refine t_hideE fun KL => ?_ | refine t_hideD fun KL => ?_)); simp only [go_sem, geff, kp73, ecn61_f, ecn61_c, arrs_length, arrV_def', slK_sl, hi'])
     | ((with_reducible refine kp_skip ?_ ?_); rfl) | simp only [thenQ, blockQ, scopeQ, Nat.reduceEqDiff, reduceIte] | (with_reducible first | refine And.intro ?_ ?_ | intro vr))
    all_goals try (first | (with_reducible assumption) | (intros; (try simp only [Bool.and_eq_true, Bool.or_eq_true, Bool.or_eq_false_iff, Bool.not_eq_true', Bool.not_eq_false', decide_eq_true_eq, decide_eq_false_iff_not, beq_iff_eq, beq_eq_false_iff_ne, bne_iff_ne, bne_eq_false_iff_eq, ne_eq, inI64, List.length_append] at *) <;> omega))
    all_goals ((first | refine end_retE ?_ | refine end_normE ?_); simp only [fin, go_sem])
    · rw [hi, if_neg (by simp), if_neg (by simp), if_pos hc] at hR
      exact ib_of (by first | exact slK_sl | rfl) hR.symm
    · rw [hi, if_neg (by simp), if_neg (by simp), if_neg (by rw [hc]; decide)] at hR
      exact ib_of (by first | exact slK_sl | rfl) hR.symm
end Go.Proofs.Ytjlcbojpiieafaa

/- Elements that are only moved: the function that finds one. -/
namespace Go.Proofs.Ytjlcbojpiieafaa
open Go Go.Fw
set_option maxRecDepth 20000

def isF (g : Nat) : Bool := [104, 107, 109, 111, 114, 116, 118, 120].contains g
def famF (f : FuncId) (args : List AV) : VR := if isF f = true then (match args with
  | [.lit (.int .i64 k), x, y] => match slK .i64 x, slK .i64 y with
    | some d, some ix => some (fromP f d ix ∧ liBd d ∧ liBd ix ∧ 0 ≤ k ∧ k ≤ 4096, .lit (.int .i64 (fromS f k d ix)))
    | _, _ => none
  | _ => none) else none
theorem famF_c {g : Nat} {k : Int} {x y : AV} (h : isF g = true) : famF g [.lit (.int .i64 k), x, y] = match slK .i64 x, slK .i64 y with
    | some d, some ix => some (fromP g d ix ∧ liBd d ∧ liBd ix ∧ 0 ≤ k ∧ k ≤ 4096, .lit (.int .i64 (fromS g k d ix)))
    | _, _ => none := by unfold famF; rw [if_pos h]
theorem famF_ok : ∀ f args p r, famF f args = some (p, r) → p → fok Try.prog f = true ∧ PC Try.prog f args r := by
  intro f args p r h hp
  unfold famF at h
  split at h
  · rename_i hf
    have hf' : f ∈ [104, 107, 109, 111, 114, 116, 118, 120] := by simpa [isF] using hf
    split at h
    · split at h
      · rename_i hx hy
        cases h
        refine ⟨?_, PC.weak (from_pc hf' hp.1 hp.2.1 hp.2.2.1 hp.2.2.2) ⟨LeA.refl _, slK_le hx, slK_le hy, trivial⟩⟩
        simp only [List.mem_cons, List.not_mem_nil, or_false] at hf'
        rcases hf' with rfl | rfl | rfl | rfl | rfl | rfl | rfl | rfl
        · exact fk104
        · exact fk107
        · exact fk109
        · exact fk111
        · exact fk114
        · exact fk116
        · exact fk118
        · exact fk120
      · cases h
    · cases h
  · cases h
noncomputable def J1 : Env := envM (P := Try.prog) famF jk2 zer (fun _ => false) (fun _ => false) [] []
theorem J1_ok : EnvOk Try.prog J1 := envMOk zer_ok famF_ok
set_option maxHeartbeats 4000000 in
theorem element_ec {σ : List AObj} {ix : List Int} {s e : ByteArray} {b : Bool} {rk d x : List Int} {y : AV} {g : Nat} {kk : Int} {oa ox ok : Nat} {k : AV → List AObj → Prop} (hg : isF g = true)
    (ha : σ[oa]? = some (.box 33 [.lit (.string e), .sl false 1 (ints .i64 d), .sl false 1 (ints .i64 x)])) (hx : σ[ox]? = some (.box 92 [.lit (.string s), .lit (.bool b), .sl false 1 (ints .i64 rk), y, .fn (.func g) [] []])) (hk : σ[ok]? = some (.box 3 [.lit (.int .i64 kk)]))
    (hp : fromP g d ix) (hd : liBd d) (hi : liBd ix) (hkk : 0 ≤ kk ∧ kk ≤ 4096) (h0 : 0 ≤ fromS g kk d ix) (h1 : fromS g kk d ix < x.length)
    (hq : k (.lit (.int .i64 (x.getD (fromS g kk d ix).toNat 0))) σ) : EC Try.prog 96 [.sl false 1 (ints .i64 ix), .ref oa 0, .ref ox 0, .ref ok 0] σ k := by
  refine ec_ofR J1_ok mixed (kp96) (rs := [.tmp 5]) Try.func96 rfl (by kernel_rfl) (by kernel_rfl) (Nat.le_of_ble_eq_true rfl) ?_
  simp only [initF_cons, initF_nil, Nat.reduceAdd]
  refine t_name fun KF => ?_
  unfold J1
  repeat' (first
   | (with_reducible first | refine t_seq fun K => ?_ | refine t_block ?_ | refine t_scope ?_ | refine t_label ?_ | refine t_skip ?_ | refine t_exit ?_ | refine t_ret ?_ | refine t_k ?_ | refine t_gF ?_ | exact kp_nil | exact Kp.refl _ | exact kp_to | refine kp_cons ?_ | refine kp_arr ?_ | refine kp_app ?_ | refine t_p ?_ | refine t_br (fun hc => ?_) fun hc => ?_)
   | ((with_reducible first | refine t_kE (t_openE ?_) | refine t_kD (t_openD ?_) | refine t_kE ?_ | refine t_kD ?_ | refine t_gS ?_ | refine t_kL ?_ | refine t_kLF ?_ ?_ | refine t_region fun K => ?_ | refine t_cond fun A B => ?_ | refine t_draw (by kernel_rfl) fun K => ?_); (try (first | refine t_hideE fun KL => ?_ | refine t_hideD fun KL => ?_)); simp only [go_sem, geff, kp96, ha, hx, hk, famF_c hg, slK_sl])
   | ((with_reducible refine kp_skip ?_ ?_); rfl) | simp only [thenQ, blockQ, scopeQ, Nat.reduceEqDiff, reduceIte] | (with_reducible first | refine And.intro ?_ ?_ | intro vr))
  all_goals try exact hp
  all_goals try exact hd
  all_goals try exact hi
  all_goals try (first | (with_reducible assumption) | (intros; (try simp only [Bool.and_eq_true, Bool.or_eq_true, Bool.or_eq_false_iff, Bool.not_eq_true', Bool.not_eq_false', decide_eq_true_eq, decide_eq_false_iff_not, beq_iff_eq, beq_eq_false_iff_ne, bne_iff_ne, bne_eq_false_iff_eq, ne_eq, inI64, List.length_append] at *) <;> omega))
  all_goals ((first | refine end_retE ?_ | refine end_normE ?_); simp only [fin, go_sem])
  exact hq
noncomputable def ecn96 : ECon Try.prog where
  f := 96
  c := fun args σ k => match args with
    | [x', .ref oa 0, .ref ox 0, .ref ok 0] => match slK .i64 x', σ[oa]?, σ[ox]?, σ[ok]? with
      | some ix, some (.box 33 [.lit (.string _), .sl false 1 d', .sl false 1 y']), some (.box 92 [.lit (.string _), .lit (.bool _), .sl false 1 rk', _, .fn (.func g) [] []]), some (.box 3 [.lit (.int .i64 kk)]) =>
        withK .i64 d' fun d => withK .i64 y' fun x => withK .i64 rk' fun _ => isF g = true ∧ fromP g d ix ∧ liBd d ∧ liBd ix ∧ (0 ≤ kk ∧ kk ≤ 4096) ∧ 0 ≤ fromS g kk d ix ∧ fromS g kk d ix < x.length ∧ k (.lit (.int .i64 (x.getD (fromS g kk d ix).toNat 0))) σ
      | _, _, _, _ => False
    | _ => False
  ok := by
    intro args σ k h
    split at h
    · split at h
      · rename_i hx ha hxx hk
        obtain ⟨d, hd, h1⟩ := withK_inv h
        obtain ⟨x, hxe, h2⟩ := withK_inv h1
        obtain ⟨rk, hrk, h3⟩ := withK_inv h2
        subst hd hxe hrk
        exact EC.weak (element_ec h3.1 ha hxx hk h3.2.1 h3.2.2.1 h3.2.2.2.1 h3.2.2.2.2.1 h3.2.2.2.2.2.1 h3.2.2.2.2.2.2.1 h3.2.2.2.2.2.2.2) (LeRL.cons (slK_leR hx) (LeRL.cons (LeR.refl _) (LeRL.cons (LeR.refl _) (LeRL.cons (LeR.refl _) LeRL.nil))))
      · exact h.elim
    · exact h.elim
  fk := fk96
theorem ecn96_f : ecn96.f = 96 := rfl
theorem ecn96_c {x' : AV} {oa ox ok : Nat} {σ : List AObj} {k : AV → List AObj → Prop} : ecn96.c [x', .ref oa 0, .ref ox 0, .ref ok 0] σ k = match slK .i64 x', σ[oa]?, σ[ox]?, σ[ok]? with
      | some ix, some (.box 33 [.lit (.string _), .sl false 1 d', .sl false 1 y']), some (.box 92 [.lit (.string _), .lit (.bool _), .sl false 1 rk', _, .fn (.func g) [] []]), some (.box 3 [.lit (.int .i64 kk)]) =>
        withK .i64 d' fun d => withK .i64 y' fun x => withK .i64 rk' fun _ => isF g = true ∧ fromP g d ix ∧ liBd d ∧ liBd ix ∧ (0 ≤ kk ∧ kk ≤ 4096) ∧ 0 ≤ fromS g kk d ix ∧ fromS g kk d ix < x.length ∧ k (.lit (.int .i64 (x.getD (fromS g kk d ix).toNat 0))) σ
      | _, _, _, _ => False := rfl
end Go.Proofs.Ytjlcbojpiieafaa

/- Elements that are only moved: all of them. -/
namespace Go.Proofs.Ytjlcbojpiieafaa
open Go Go.Fw
set_option maxRecDepth 20000

def gatherS (g : Nat) (k : Int) (out : List Int) (a : Arr) (n : Nat) : List Int := (List.range n).map fun (j : Nat) => a.x.getD (fromS g k a.d (digF out (j : Int))).toNat 0
theorem gatherS_zero {g : Nat} {k : Int} {out : List Int} {a : Arr} : gatherS g k out a 0 = [] := rfl
theorem gatherS_len {g : Nat} {k : Int} {out : List Int} {a : Arr} {n : Nat} : (gatherS g k out a n).length = n := by simp [gatherS]
theorem ints_nil {t : IntKind} : ints t [] = [] := rfl
theorem gatherS_succ {g : Nat} {k : Int} {out : List Int} {a : Arr} {n : Nat} : gatherS g k out a (n + 1) = gatherS g k out a n ++ [a.x.getD (fromS g k a.d (digF out n)).toNat 0] := by
  simp [gatherS, List.range_succ]
noncomputable def J2 : Env := envJ (P := Try.prog) jk2 zer (fun _ => false) (fun _ => false) [con65b, con95] [ecn96]
theorem J2_ok : EnvOk Try.prog J2 := envJOk zer_ok
structure Gat where
  i : Nat
  v : Nat
set_option maxHeartbeats 4000000 in
theorem gathered_pc {s : ByteArray} {b : Bool} {rk out : List Int} {o : Option Nat} {g : Nat} {k n : Int} {a : Arr} (hg : isF g = true) (hS : sizeS out = (n, 0)) (hd : liBd a.d) (hk : 0 ≤ k ∧ k ≤ 4096)
    (hp : ∀ p : Nat, (p : Int) < n → fromP g a.d (digF out p) ∧ liBd (digF out p) ∧ 0 ≤ fromS g k a.d (digF out p) ∧ fromS g k a.d (digF out p) < a.x.length) :
    PC Try.prog 74 [entV ⟨s, b, rk, o, some g⟩, .lit (.int .i64 k), .sl false 1 (ints .i64 out), arrV a] (.sl false 1 (ints .i64 (gatherS g k out a n.toNat))) := by
  have hz := sizeS_bd out
  rw [hS] at hz
  simp only at hz
  have hol := (sizeS_ok hS).1
  rcases o with _ | g2
  · skip
    refine pc_ofR J2_ok mixed (kp74) (rs := [.tmp 8]) Try.func74 rfl (by kernel_rfl) (by kernel_rfl) (Nat.le_of_ble_eq_true rfl) ?_
    simp only [initF_cons, initF_nil, Nat.reduceAdd]
    refine t_name fun KF => ?_
    unfold J2
    repeat' (first
     | (with_reducible first | refine t_seq fun K => ?_ | refine t_block ?_ | refine t_scope ?_ | refine t_label ?_ | refine t_skip ?_ | refine t_exit ?_ | refine t_ret ?_ | refine t_k ?_ | refine t_gF ?_ | exact kp_nil | exact Kp.refl _ | exact kp_to | refine kp_cons ?_ | refine kp_arr ?_ | refine kp_app ?_ | refine t_p ?_ | refine t_br (fun hc => ?_) fun hc => ?_)
     | ((with_reducible first | refine t_kE (t_openE ?_) | refine t_kD (t_openD ?_) | refine t_kE ?_ | refine t_kD ?_ | refine t_gS ?_ | refine t_kL ?_ | refine t_kLF ?_ ?_ | refine t_region fun K => ?_ | refine t_cond fun A B => ?_ | refine t_draw (by kernel_rfl) fun K => ?_); (try (first | refine t_hideE fun KL => ?_ | refine t_hideD fun KL => ?_)); simp only [go_sem, geff, kp74, con65b_f, con95_f, ecn96_f, con65b_c, hS, szV_def, slK_sl, entV_def, arrV_def, fnV_none, fnV_some])
     | ((with_reducible refine kp_skip ?_ ?_); rfl) | simp only [thenQ, blockQ, scopeQ, Nat.reduceEqDiff, reduceIte] | (with_reducible first | refine And.intro ?_ ?_ | intro vr))
    all_goals try (first | (with_reducible assumption) | (intros; (try simp only [Bool.and_eq_true, Bool.or_eq_true, Bool.or_eq_false_iff, Bool.not_eq_true', Bool.not_eq_false', decide_eq_true_eq, decide_eq_false_iff_not, beq_iff_eq, beq_eq_false_iff_ne, bne_iff_ne, bne_eq_false_iff_eq, ne_eq, inI64, List.length_append] at *) <;> omega))
    refine t_loopF (ι := { i : Gat // (i.i : Int) ≤ n }) (fun i => [(23, .lit (.int .i64 i.1.i)), (9, .arr 3 i.1.v)]) (fun i => [.box 92 [.lit (.string s), .lit (.bool b), .sl false 1 (ints .i64 rk), .lit .nilFunc, .fn (.func g) [] []], .box 3 [.lit (.int .i64 k)], .box 33 [.lit (.string a.e), .sl false 1 (ints .i64 a.d), .sl false 1 (ints .i64 a.x)], .arr 3 1 (ints .i64 (gatherS g k out a i.1.i)) i.1.v false]) (fun i => n.toNat - i.1.i) ⟨⟨0, 0⟩, by simpa using hz.1⟩ ?_ ?_
    · refine (le_nil 9 3 1 rfl).trans ?_
      simp only [updL_nil, updL_cons, delF_top, delF_upd, Nat.reduceEqDiff, reduceIte]
      simp only [gatherS_zero, ints_nil]
      refine Le.frameS (by first | rfl | (simp only [go_sem]; try rfl)) ?_
      repeat' (first | exact leF_top _ | exact (fun _ => LeR.refl _) | (with_reducible refine leF_sl ?_ ?_) | (refine leF_upd ?_ ?_))
      all_goals (first | exact LeR.top _ | exact LeR.refl _ | (refine LeR.of_eq ?_; (try simp only [go_sem]); try rfl) | ((try simp only [go_sem]); try rfl))
    rintro ⟨⟨i, v⟩, hi⟩ K0
    simp only at hi
    by_cases hc : (i : Int) < n
    · have g3 : decide ((i : Int) < n) = true := decide_eq_true hc
      obtain ⟨e1, -, -⟩ := idx_ok hS (by omega) hc
      obtain ⟨p1, p2, p3, p4⟩ := hp i hc
      repeat' (first
       | (with_reducible first | refine t_seq fun K => ?_ | refine t_block ?_ | refine t_scope ?_ | refine t_label ?_ | refine t_skip ?_ | refine t_exit ?_ | refine t_ret ?_ | refine t_k ?_ | refine t_gF ?_ | exact kp_nil | exact Kp.refl _ | exact kp_to | refine kp_cons ?_ | refine kp_arr ?_ | refine kp_app ?_ | refine t_p ?_ | refine t_br (fun hc => ?_) fun hc => ?_)
       | ((with_reducible first | refine t_kE (t_openE ?_) | refine t_kD (t_openD ?_) | refine t_kE ?_ | refine t_kD ?_ | refine t_gS ?_ | refine t_kL ?_ | refine t_kLF ?_ ?_ | refine t_region fun K => ?_ | refine t_cond fun A B => ?_ | refine t_draw (by kernel_rfl) fun K => ?_); (try (first | refine t_hideE fun KL => ?_ | refine t_hideD fun KL => ?_)); simp only [go_sem, geff, kp74, g3, Int.toNat_natCast, con65b_f, con95_f, ecn96_f, con95_c, ecn96_c, ixV_def, e1, slK_sl])
       | ((with_reducible refine kp_skip ?_ ?_); rfl) | simp only [thenQ, blockQ, scopeQ, Nat.reduceEqDiff, reduceIte] | (with_reducible first | refine And.intro ?_ ?_ | intro vr))
      all_goals try exact hg
      all_goals try exact p1
      all_goals try exact p2
      all_goals try exact hd
      all_goals try (first | (with_reducible assumption) | (intros; (try simp only [Bool.and_eq_true, Bool.or_eq_true, Bool.or_eq_false_iff, Bool.not_eq_true', Bool.not_eq_false', decide_eq_true_eq, decide_eq_false_iff_not, beq_iff_eq, beq_eq_false_iff_ne, bne_iff_ne, bne_eq_false_iff_eq, ne_eq, inI64, List.length_append] at *) <;> omega))
      · rw [gatherS_len]; omega
      · simp only [← gatherS_succ]
        refine ⟨⟨⟨i + 1, v + 1⟩, by show ((i + 1 : Nat) : Int) ≤ n; omega⟩, by first | (simp only; omega) | omega, ?_⟩
        simp only [updL_nil, updL_cons, delF_top, delF_upd, Nat.reduceEqDiff, reduceIte]
        refine Le.frameS (by first | rfl | (simp only [go_sem]; try rfl)) ?_
        repeat' (first | exact leF_top _ | exact (fun _ => LeR.refl _) | (with_reducible refine leF_sl ?_ ?_) | (refine leF_upd ?_ ?_))
        all_goals (first | exact LeR.top _ | exact LeR.refl _ | (refine LeR.of_eq ?_; (try simp only [go_sem]); try rfl) | ((try simp only [go_sem]); try rfl))
    · obtain rfl : n = (i : Int) := by omega
      have g3 : decide ((i : Int) < (i : Int)) = false := decide_eq_false hc
      repeat' (first
       | (with_reducible first | refine t_seq fun K => ?_ | refine t_block ?_ | refine t_scope ?_ | refine t_label ?_ | refine t_skip ?_ | refine t_exit ?_ | refine t_ret ?_ | refine t_k ?_ | refine t_gF ?_ | exact kp_nil | exact Kp.refl _ | exact kp_to | refine kp_cons ?_ | refine kp_arr ?_ | refine kp_app ?_ | refine t_p ?_ | refine t_br (fun hc => ?_) fun hc => ?_)
       | ((with_reducible first | refine t_kE (t_openE ?_) | refine t_kD (t_openD ?_) | refine t_kE ?_ | refine t_kD ?_ | refine t_gS ?_ | refine t_kL ?_ | refine t_kLF ?_ ?_ | refine t_region fun K => ?_ | refine t_cond fun A B => ?_ | refine t_draw (by kernel_rfl) fun K => ?_); (try (first | refine t_hideE fun KL => ?_ | refine t_hideD fun KL => ?_)); simp only [go_sem, geff, kp74, g3, Int.toNat_natCast, con65b_f, con95_f, ecn96_f])
       | ((with_reducible refine kp_skip ?_ ?_); rfl) | simp only [thenQ, blockQ, scopeQ, Nat.reduceEqDiff, reduceIte] | (with_reducible first | refine And.intro ?_ ?_ | intro vr))
      all_goals ((first | refine end_retE ?_ | refine end_normE ?_); simp only [fin, go_sem])
      exact LeA.refl _
  · skip
    refine pc_ofR J2_ok mixed (kp74) (rs := [.tmp 8]) Try.func74 rfl (by kernel_rfl) (by kernel_rfl) (Nat.le_of_ble_eq_true rfl) ?_
    simp only [initF_cons, initF_nil, Nat.reduceAdd]
    refine t_name fun KF => ?_
    unfold J2
    repeat' (first
     | (with_reducible first | refine t_seq fun K => ?_ | refine t_block ?_ | refine t_scope ?_ | refine t_label ?_ | refine t_skip ?_ | refine t_exit ?_ | refine t_ret ?_ | refine t_k ?_ | refine t_gF ?_ | exact kp_nil | exact Kp.refl _ | exact kp_to | refine kp_cons ?_ | refine kp_arr ?_ | refine kp_app ?_ | refine t_p ?_ | refine t_br (fun hc => ?_) fun hc => ?_)
     | ((with_reducible first | refine t_kE (t_openE ?_) | refine t_kD (t_openD ?_) | refine t_kE ?_ | refine t_kD ?_ | refine t_gS ?_ | refine t_kL ?_ | refine t_kLF ?_ ?_ | refine t_region fun K => ?_ | refine t_cond fun A B => ?_ | refine t_draw (by kernel_rfl) fun K => ?_); (try (first | refine t_hideE fun KL => ?_ | refine t_hideD fun KL => ?_)); simp only [go_sem, geff, kp74, con65b_f, con95_f, ecn96_f, con65b_c, hS, szV_def, slK_sl, entV_def, arrV_def, fnV_none, fnV_some])
     | ((with_reducible refine kp_skip ?_ ?_); rfl) | simp only [thenQ, blockQ, scopeQ, Nat.reduceEqDiff, reduceIte] | (with_reducible first | refine And.intro ?_ ?_ | intro vr))
    all_goals try (first | (with_reducible assumption) | (intros; (try simp only [Bool.and_eq_true, Bool.or_eq_true, Bool.or_eq_false_iff, Bool.not_eq_true', Bool.not_eq_false', decide_eq_true_eq, decide_eq_false_iff_not, beq_iff_eq, beq_eq_false_iff_ne, bne_iff_ne, bne_eq_false_iff_eq, ne_eq, inI64, List.length_append] at *) <;> omega))
    refine t_loopF (ι := { i : Gat // (i.i : Int) ≤ n }) (fun i => [(23, .lit (.int .i64 i.1.i)), (9, .arr 3 i.1.v)]) (fun i => [.box 92 [.lit (.string s), .lit (.bool b), .sl false 1 (ints .i64 rk), .fn (.func g2) [] [], .fn (.func g) [] []], .box 3 [.lit (.int .i64 k)], .box 33 [.lit (.string a.e), .sl false 1 (ints .i64 a.d), .sl false 1 (ints .i64 a.x)], .arr 3 1 (ints .i64 (gatherS g k out a i.1.i)) i.1.v false]) (fun i => n.toNat - i.1.i) ⟨⟨0, 0⟩, by simpa using hz.1⟩ ?_ ?_
    · refine (le_nil 9 3 1 rfl).trans ?_
      simp only [updL_nil, updL_cons, delF_top, delF_upd, Nat.reduceEqDiff, reduceIte]
      simp only [gatherS_zero, ints_nil]
      refine Le.frameS (by first | rfl | (simp only [go_sem]; try rfl)) ?_
      repeat' (first | exact leF_top _ | exact (fun _ => LeR.refl _) | (with_reducible refine leF_sl ?_ ?_) | (refine leF_upd ?_ ?_))
      all_goals (first | exact LeR.top _ | exact LeR.refl _ | (refine LeR.of_eq ?_; (try simp only [go_sem]); try rfl) | ((try simp only [go_sem]); try rfl))
    rintro ⟨⟨i, v⟩, hi⟩ K0
    simp only at hi
    by_cases hc : (i : Int) < n
    · have g3 : decide ((i : Int) < n) = true := decide_eq_true hc
      obtain ⟨e1, -, -⟩ := idx_ok hS (by omega) hc
      obtain ⟨p1, p2, p3, p4⟩ := hp i hc
      repeat' (first
       | (with_reducible first | refine t_seq fun K => ?_ | refine t_block ?_ | refine t_scope ?_ | refine t_label ?_ | refine t_skip ?_ | refine t_exit ?_ | refine t_ret ?_ | refine t_k ?_ | refine t_gF ?_ | exact kp_nil | exact Kp.refl _ | exact kp_to | refine kp_cons ?_ | refine kp_arr ?_ | refine kp_app ?_ | refine t_p ?_ | refine t_br (fun hc => ?_) fun hc => ?_)
       | ((with_reducible first | refine t_kE (t_openE ?_) | refine t_kD (t_openD ?_) | refine t_kE ?_ | refine t_kD ?_ | refine t_gS ?_ | refine t_kL ?_ | refine t_kLF ?_ ?_ | refine t_region fun K => ?_ | refine t_cond fun A B => ?_ | refine t_draw (by kernel_rfl) fun K => ?_); (try (first | refine t_hideE fun KL => ?_ | refine t_hideD fun KL => ?_)); simp only [go_sem, geff, kp74, g3, Int.toNat_natCast, con65b_f, con95_f, ecn96_f, con95_c, ecn96_c, ixV_def, e1, slK_sl])
       | ((with_reducible refine kp_skip ?_ ?_); rfl) | simp only [thenQ, blockQ, scopeQ, Nat.reduceEqDiff, reduceIte] | (with_reducible first | refine And.intro ?_ ?_ | intro vr))
      all_goals try exact hg
      all_goals try exact p1
      all_goals try exact p2
      all_goals try exact hd
      all_goals try (first | (with_reducible assumption) | (intros; (try simp only [Bool.and_eq_true, Bool.or_eq_true, Bool.or_eq_false_iff, Bool.not_eq_true', Bool.not_eq_false', decide_eq_true_eq, decide_eq_false_iff_not, beq_iff_eq, beq_eq_false_iff_ne, bne_iff_ne, bne_eq_false_iff_eq, ne_eq, inI64, List.length_append] at *) <;> omega))
      · rw [gatherS_len]; omega
      · simp only [← gatherS_succ]
        refine ⟨⟨⟨i + 1, v + 1⟩, by show ((i + 1 : Nat) : Int) ≤ n; omega⟩, by first | (simp only; omega) | omega, ?_⟩
        simp only [updL_nil, updL_cons, delF_top, delF_upd, Nat.reduceEqDiff, reduceIte]
        refine Le.frameS (by first | rfl | (simp only [go_sem]; try rfl)) ?_
        repeat' (first | exact leF_top _ | exact (fun _ => LeR.refl _) | (with_reducible refine leF_sl ?_ ?_) | (refine leF_upd ?_ ?_))
        all_goals (first | exact LeR.top _ | exact LeR.refl _ | (refine LeR.of_eq ?_; (try simp only [go_sem]); try rfl) | ((try simp only [go_sem]); try rfl))
    · obtain rfl : n = (i : Int) := by omega
      have g3 : decide ((i : Int) < (i : Int)) = false := decide_eq_false hc
      repeat' (first
       | (with_reducible first | refine t_seq fun K => ?_ | refine t_block ?_ | refine t_scope ?_ | refine t_label ?_ | refine t_skip ?_ | refine t_exit ?_ | refine t_ret ?_ | refine t_k ?_ | refine t_gF ?_ | exact kp_nil | exact Kp.refl _ | exact kp_to | refine kp_cons ?_ | refine kp_arr ?_ | refine kp_app ?_ | refine t_p ?_ | refine t_br (fun hc => ?_) fun hc => ?_)
       | ((with_reducible first | refine t_kE (t_openE ?_) | refine t_kD (t_openD ?_) | refine t_kE ?_ | refine t_kD ?_ | refine t_gS ?_ | refine t_kL ?_ | refine t_kLF ?_ ?_ | refine t_region fun K => ?_ | refine t_cond fun A B => ?_ | refine t_draw (by kernel_rfl) fun K => ?_); (try (first | refine t_hideE fun KL => ?_ | refine t_hideD fun KL => ?_)); simp only [go_sem, geff, kp74, g3, Int.toNat_natCast, con65b_f, con95_f, ecn96_f])
       | ((with_reducible refine kp_skip ?_ ?_); rfl) | simp only [thenQ, blockQ, scopeQ, Nat.reduceEqDiff, reduceIte] | (with_reducible first | refine And.intro ?_ ?_ | intro vr))
      all_goals ((first | refine end_retE ?_ | refine end_normE ?_); simp only [fin, go_sem])
      exact LeA.refl _
end Go.Proofs.Ytjlcbojpiieafaa

/- What the primitives' cells are, valid ones: four kinds of primitives. -/
namespace Go.Proofs.Ytjlcbojpiieafaa
open Go Go.Fw

def gatP (e : Ent) (k : Int) (out : List Int) (a : Arr) : Prop :=
  ∃ g, e.from_ = some g ∧ isF g = true ∧ (sizeS out).2 = 0 ∧ liBd a.d ∧ (0 ≤ k ∧ k ≤ 4096) ∧
    ∀ p : Nat, (p : Int) < (sizeS out).1 → fromP g a.d (digF out p) ∧ liBd (digF out p) ∧ 0 ≤ fromS g k a.d (digF out p) ∧ fromS g k a.d (digF out p) < a.x.length
inductive Cls (op : ByteArray) (k : Int) (cs : List Arr) (d : List Int) (e : Ent) : Prop
  | iota (n : Int) : eqS op n_iota = true → d = [n] → dm n → Cls op k cs d e
  | join : eqS op n_iota = false → (eqS op n_append || eqS op n_pack) = true → (cs.flatMap (·.x)).length ≤ 1000000 → Cls op k cs d e
  | pick : eqS op n_iota = false → eqS op n_append = false → eqS op n_pack = false → selS op = true → 2 ≤ cs.length → (eqS op n_index = false → 3 ≤ cs.length ∧ 0 < (cs.getD 2 nilA).x.length) → 0 < (cs.getD 1 nilA).x.length →
      (cs.getD 0 nilA).x.length ≤ 1000000 → Cls op k cs d e
  | move : eqS op n_iota = false → eqS op n_append = false → eqS op n_pack = false → selS op = false → 0 < cs.length → gatP e k d (cs.getD 0 nilA) → Cls op k cs d e
theorem map1 {cs : List Arr} {x : List Int} (h : cs.map Arr.d = [x]) : ∃ a, cs = [a] ∧ a.d = x := by
  match cs, h with
  | [a], h => exact ⟨a, rfl, by simpa using h⟩
  | [], h => cases h
  | _ :: _ :: _, h => simp at h
theorem map2 {cs : List Arr} {x y : List Int} (h : cs.map Arr.d = [x, y]) : ∃ a b, cs = [a, b] ∧ a.d = x ∧ b.d = y := by
  match cs, h with
  | [a, b], h => exact ⟨a, b, rfl, by simpa using h⟩
  | [], h => cases h
  | [_], h => simp at h
  | _ :: _ :: _ :: _, h => simp at h
theorem map3 {cs : List Arr} {x y z : List Int} (h : cs.map Arr.d = [x, y, z]) : ∃ a b c, cs = [a, b, c] ∧ a.d = x ∧ b.d = y ∧ c.d = z := by
  match cs, h with
  | [a, b, c], h => exact ⟨a, b, c, rfl, by simpa using h⟩
  | [], h => cases h
  | [_], h => simp at h
  | [_, _], h => simp at h
  | _ :: _ :: _ :: _ :: _, h => simp at h
theorem val_len {a : Arr} (h : ofE a = 0) : (a.x.length : Int) = prI a.d ∧ a.x.length ≤ 4096 := by
  have h1 := (ofE_inv h).2.1
  have := sizeS_ok h1
  omega
theorem val_len0 {a : Arr} (h : ofE a = 0) (hd : a.d = []) : a.x.length = 1 := by
  have := (val_len h).1
  rw [hd, prI] at this; omega
theorem val_len1 {a : Arr} {n : Int} (h : ofE a = 0) (hd : a.d = [n]) : (a.x.length : Int) = n := by
  have := (val_len h).1
  rw [hd, prI, prI] at this; omega
theorem val_len2 {a : Arr} {m n : Int} (h : ofE a = 0) (hd : a.d = [m, n]) : (a.x.length : Int) = m * n := by
  have := (val_len h).1
  rw [hd, prI, prI, prI, Int.mul_one] at this; omega
theorem digF_bd : ∀ (d : List Int) (o : Int), liBd d → (∀ x ∈ d, 1 ≤ x) → 0 ≤ o → o < prI d → liBd (digF d o)
  | [], _, _, _, _, _ => by intro x hx; cases hx
  | d :: t, o, hb, hl, h, hlt => by
    have hd := hb d (by simp)
    have ht : ∀ y ∈ t, 1 ≤ y := fun y hy => hl y (by simp [hy])
    have hp := prI_pos ht
    have h1 : 0 ≤ o / prI t := Int.ediv_nonneg h (by omega)
    have h2 : o / prI t < d := Int.ediv_lt_of_lt_mul (by omega) hlt
    intro x hx
    rcases List.mem_cons.1 hx with rfl | hx
    · omega
    · exact digF_bd t _ (fun y hy => hb y (by simp [hy])) ht (Int.emod_nonneg _ (by omega)) (Int.emod_lt_of_pos _ (by omega)) x hx
theorem dig1 {n o : Int} : digF [n] o = [o] := by simp [digF, prI]
theorem dig2 {m n o : Int} : digF [m, n] o = [o / n, o % n] := by simp [digF, prI]
theorem sum_len {cs : List Arr} (h : ∀ a ∈ cs, a.x.length ≤ 4096) : (cs.flatMap (·.x)).length ≤ 4096 * cs.length := by
  induction cs with
  | nil => simp
  | cons a t ih =>
    have h1 := h a (by simp)
    have h2 := ih fun b hb => h b (by simp [hb])
    simp only [List.flatMap_cons, List.length_append, List.length_cons]
    omega
theorem giv_f {op : ByteArray} {n : Int} {e : Ent} {e' : Ent} {ns num : Int} (h : givenS op ns num n = (e, 0)) (h' : findS op n = (e', true)) : e = e' := giv_e (given_ok h).2.2.2.2.2 h'
theorem getD1 {a b : Int} : ([a, b] : List Int).getD 1 0 = b := rfl
theorem getD0 {a : Int} {l : List Int} : (a :: l).getD 0 0 = a := rfl
set_option maxHeartbeats 1000000 in
theorem cls_of {op : ByteArray} {ns : List Int} {num : Int} {cs : List Arr} {d : List Int} {e : Ent} (hs : Shp op ns num (cs.map Arr.d) d) (hv : ∀ a ∈ cs, ofE a = 0) (hd : (sizeS d).2 = 0) (hg : givenS op ns.length num cs.length = (e, 0)) :
    Cls op (sizeK ns num) cs d e := by
  obtain ⟨-, hdm, hN, -⟩ := sizeS_ok (d := d) (n := (sizeS d).1) (Prod.ext rfl hd)
  have pos : ∀ p : Nat, (p : Int) < (sizeS d).1 → ∀ x ∈ d, 1 ≤ x := fun p hp => dims_pos (d := d) (n := (sizeS d).1) (Prod.ext rfl hd) (by omega) hp
  have dbd : ∀ p : Nat, (p : Int) < (sizeS d).1 → liBd (digF d p) := fun p hp => digF_bd d p hdm (pos p hp) (by omega) (by omega)
  have bdl : ∀ a ∈ cs, a.x.length ≤ 4096 := fun a ha => (val_len (hv a ha)).2
  have bdd : ∀ a ∈ cs, liBd a.d := fun a ha => (sizeS_ok (ofE_inv (hv a ha)).2.1).2.1
  generalize hds : cs.map Arr.d = ds at hs
  cases hs with
  | iota k hk => exact .iota k rfl rfl hk
  | fill k hk =>
    obtain ⟨a, rfl, ha⟩ := map1 hds
    refine .move rfl rfl rfl rfl (by simp) ⟨104, ?_, rfl, hd, bdd a (by simp), by simpa [sizeK, dm] using hk, fun p hp => ⟨trivial, dbd p hp, ?_, ?_⟩⟩
    · rw [giv_f hg (show findS n_fill _ = (ents.getD 1 ent0, true) from rfl)]; rfl
    · simp [fromS]
    · have := val_len0 (hv a (by simp)) ha
      simp only [fromS, List.getD_cons_zero]; omega
  | take k n hk hn hkn =>
    obtain ⟨a, rfl, ha⟩ := map1 hds
    have hl := val_len1 (hv a (by simp)) ha
    rw [prI, prI] at hN
    refine .move rfl rfl rfl rfl (by simp) ⟨107, ?_, rfl, hd, bdd a (by simp), by simpa [sizeK, dm] using hk, fun p hp => ⟨?_, dbd p hp, ?_, ?_⟩⟩
    · rw [giv_f hg (show findS n_take _ = (ents.getD 2 ent0, true) from rfl)]; rfl
    · rw [dig1]; simp [fromP]
    · simp only [fromS, dig1, getD0]; omega
    · simp only [fromS, dig1, getD0, List.getD_cons_zero]; omega
  | drop k n hk hn hkn =>
    obtain ⟨a, rfl, ha⟩ := map1 hds
    have hl := val_len1 (hv a (by simp)) ha
    rw [prI, prI] at hN
    have e1 : sizeK [k] 0 = k := by simp [sizeK]
    rw [e1]
    refine .move rfl rfl rfl rfl (by simp) ⟨109, ?_, rfl, hd, bdd a (by simp), hk, fun p hp => ⟨?_, dbd p hp, ?_, ?_⟩⟩
    · rw [giv_f hg (show findS n_drop _ = (ents.getD 3 ent0, true) from rfl)]; rfl
    · rw [dig1]; simp [fromP]
    · simp only [fromS, dig1, getD0]; have := hk.1; omega
    · simp only [fromS, dig1, getD0, List.getD_cons_zero]; omega
  | reverse n hn =>
    obtain ⟨a, rfl, ha⟩ := map1 hds
    have hl := val_len1 (hv a (by simp)) ha
    rw [prI, prI] at hN
    refine .move rfl rfl rfl rfl (by simp) ⟨111, ?_, rfl, hd, bdd a (by simp), by simp [sizeK], fun p hp => ⟨?_, dbd p hp, ?_, ?_⟩⟩
    · rw [giv_f hg (show findS n_reverse _ = (ents.getD 4 ent0, true) from rfl)]; rfl
    · rw [dig1]; simp [fromP, ha]
    · simp only [fromS, dig1, getD0, List.getD_cons_zero, ha]; omega
    · simp only [fromS, dig1, getD0, List.getD_cons_zero, ha]; omega
  | append m n hm hn =>
    refine .join rfl rfl ?_
    have := sum_len bdl
    have : cs.length = 2 := by have := congrArg List.length hds; simpa using this
    omega
  | transpose m n hm hn =>
    obtain ⟨a, rfl, ha⟩ := map1 hds
    have hl := val_len2 (hv a (by simp)) ha
    rw [prI, prI, prI, Int.mul_one] at hN
    have key : ∀ p : Nat, (p : Int) < (sizeS [n, m]).1 → 0 ≤ (p : Int) % m * n + (p : Int) / m ∧ (p : Int) % m * n + (p : Int) / m < m * n := by
      intro p hp
      have hm1 := pos p hp m (by simp)
      have hn1 := pos p hp n (by simp)
      have a1 := Int.emod_nonneg (p : Int) (show m ≠ 0 by omega)
      have a2 := Int.emod_lt_of_pos (p : Int) (show 0 < m by omega)
      have a3 : 0 ≤ (p : Int) / m := Int.ediv_nonneg (by omega) (by omega)
      have a4 : (p : Int) / m < n := Int.ediv_lt_of_lt_mul (by omega) (by omega)
      have a5 : 0 ≤ (p : Int) % m * n := Int.mul_nonneg a1 (by omega)
      have a6 : ((p : Int) % m + 1) * n ≤ m * n := Int.mul_le_mul_of_nonneg_right (by omega) (by omega)
      rw [Int.add_mul, Int.one_mul] at a6
      omega
    refine .move rfl rfl rfl rfl (by simp) ⟨114, ?_, rfl, hd, bdd a (by simp), by simp [sizeK], fun p hp => ⟨?_, dbd p hp, ?_, ?_⟩⟩
    · rw [giv_f hg (show findS n_transpose _ = (ents.getD 6 ent0, true) from rfl)]; rfl
    · rw [dig2]; simp [fromP, ha]
    · simp only [fromS, dig2, getD0, getD1, List.getD_cons_zero, ha]; exact (key p hp).1
    · simp only [fromS, dig2, getD0, getD1, List.getD_cons_zero, ha]; rw [hl]; exact (key p hp).2
  | diagonal n hn =>
    obtain ⟨a, rfl, ha⟩ := map1 hds
    have hl := val_len2 (hv a (by simp)) ha
    rw [prI, prI, Int.mul_one] at hN
    have key : ∀ p : Nat, (p : Int) < (sizeS [n]).1 → 0 ≤ (p : Int) * n + p ∧ (p : Int) * n + p < n * n := by
      intro p hp
      have a5 : 0 ≤ (p : Int) * n := Int.mul_nonneg (by omega) hn.1
      have a6 : ((p : Int) + 1) * n ≤ n * n := Int.mul_le_mul_of_nonneg_right (by omega) hn.1
      rw [Int.add_mul, Int.one_mul] at a6
      omega
    refine .move rfl rfl rfl rfl (by simp) ⟨116, ?_, rfl, hd, bdd a (by simp), by simp [sizeK], fun p hp => ⟨?_, dbd p hp, ?_, ?_⟩⟩
    · rw [giv_f hg (show findS n_diagonal _ = (ents.getD 7 ent0, true) from rfl)]; rfl
    · rw [dig1]; simp [fromP, ha]
    · simp only [fromS, dig1, getD0, getD1, List.getD_cons_zero, ha]; exact (key p hp).1
    · simp only [fromS, dig1, getD0, getD1, List.getD_cons_zero, ha]; rw [hl]; exact (key p hp).2
  | windows k n hk hn hkn =>
    obtain ⟨a, rfl, ha⟩ := map1 hds
    have hl := val_len1 (hv a (by simp)) ha
    rw [prI, prI, prI, Int.mul_one] at hN
    have key : ∀ p : Nat, (p : Int) < (sizeS [n - k + 1, k]).1 → 0 ≤ (p : Int) / k + (p : Int) % k ∧ (p : Int) / k + (p : Int) % k < n := by
      intro p hp
      have hm1 := pos p hp k (by simp)
      have a1 := Int.emod_nonneg (p : Int) (show k ≠ 0 by omega)
      have a2 := Int.emod_lt_of_pos (p : Int) (show 0 < k by omega)
      have a3 : 0 ≤ (p : Int) / k := Int.ediv_nonneg (by omega) (by omega)
      have a4 : (p : Int) / k < n - k + 1 := Int.ediv_lt_of_lt_mul (by omega) (by omega)
      omega
    refine .move rfl rfl rfl rfl (by simp) ⟨118, ?_, rfl, hd, bdd a (by simp), by simpa [sizeK, dm] using hk, fun p hp => ⟨?_, dbd p hp, ?_, ?_⟩⟩
    · rw [giv_f hg (show findS n_windows _ = (ents.getD 8 ent0, true) from rfl)]; rfl
    · rw [dig2]; simp [fromP]
    · simp only [fromS, dig2, getD0, getD1, List.getD_cons_zero]; exact (key p hp).1
    · simp only [fromS, dig2, getD0, getD1, List.getD_cons_zero]; rw [hl]; exact (key p hp).2
  | chunk c q hc1 hc2 hq hn =>
    obtain ⟨a, rfl, ha⟩ := map1 hds
    have hl := val_len1 (hv a (by simp)) ha
    rw [prI, prI, prI, Int.mul_one] at hN
    have e1 : sizeK [] num = num := rfl
    have key : ∀ p : Nat, (p : Int) / num * num + (p : Int) % num = p := fun p => by
      have := Int.emod_add_mul_ediv (p : Int) num
      rw [Int.mul_comm] at this; omega
    rw [e1]
    refine .move rfl rfl rfl rfl (by simp) ⟨120, ?_, rfl, hd, bdd a (by simp), by omega, fun p hp => ⟨?_, dbd p hp, ?_, ?_⟩⟩
    · rw [giv_f hg (show findS n_chunk _ = (ents.getD 9 ent0, true) from rfl)]; rfl
    · rw [dig2]; simp [fromP]
    · simp only [fromS, dig2, getD0, getD1, List.getD_cons_zero]; rw [key]; omega
    · simp only [fromS, dig2, getD0, getD1, List.getD_cons_zero]; rw [key, hl]; omega
  | index n hn =>
    obtain ⟨a, b, rfl, ha, hb⟩ := map2 hds
    have hl := val_len0 (hv b (by simp)) hb
    refine .pick rfl rfl rfl rfl (by simp) (fun h => by cases h) (by simp; omega) ?_
    have := bdl a (by simp)
    simp only [List.getD_cons_zero]; omega
  | update n hn =>
    obtain ⟨a, b, c, rfl, ha, hb, hc⟩ := map3 hds
    have hl := val_len0 (hv b (by simp)) hb
    have hl2 := val_len0 (hv c (by simp)) hc
    refine .pick rfl rfl rfl rfl (by simp) (fun h => ⟨by simp, by simp; omega⟩) (by simp; omega) ?_
    have := bdl a (by simp)
    simp only [List.getD_cons_zero]; omega
  | pack m hm1 hm2 =>
    refine .join rfl rfl ?_
    have h0 : ∀ a ∈ cs, a.x.length ≤ 1 := fun a ha => by
      have : a.d ∈ cs.map Arr.d := List.mem_map_of_mem ha
      rw [hds] at this
      have := val_len0 (hv a ha) (List.eq_of_mem_replicate this)
      omega
    have hlen : cs.length = m := by have := congrArg List.length hds; simpa using this
    have : ∀ (l : List Arr), (∀ a ∈ l, a.x.length ≤ 1) → (l.flatMap (·.x)).length ≤ l.length := by
      intro l hl
      induction l with
      | nil => simp
      | cons a t ih =>
        have := ih fun b hb => hl b (by simp [hb])
        have := hl a (by simp)
        simp only [List.flatMap_cons, List.length_append, List.length_cons]; omega
    have := this cs h0
    omega
end Go.Proofs.Ytjlcbojpiieafaa

/- What Apply computes: the walk. -/
namespace Go.Proofs.Ytjlcbojpiieafaa
open Go Go.Fw
set_option maxRecDepth 20000

theorem gathP_pc {e : Ent} {k : Int} {out : List Int} {a : Arr} (h : gatP e k out a) : PC Try.prog 74 [entV e, .lit (.int .i64 k), .sl false 1 (ints .i64 out), arrV a] (.sl false 1 (ints .i64 (gatherS (e.from_.getD 0) k out a (sizeS out).1.toNat))) := by
  obtain ⟨g, hg, hf, hS, hd, hk, hp⟩ := h
  obtain ⟨s, b, rk, o, p⟩ := e
  simp only at hg
  subst hg
  exact gathered_pc hf (n := (sizeS out).1) (Prod.ext rfl hS) hd hk hp
theorem entOf_le {x : AV} {e : Ent} (h : entOf x = some e) : LeA x (entV e) := by
  unfold entOf at h
  split at h
  · split at h
    · rename_i hr
      split at h <;> first | (cases h; done) | (cases h; exact LeA.agg ⟨LeA.refl _, LeA.refl _, slK_le hr, LeA.refl _, LeA.refl _, trivial⟩)
    · cases h
  · cases h
theorem entOf_mv {s : ByteArray} {b : Bool} {x : AV} {g h : Nat} : entOf (.agg [.lit (.string s), .lit (.bool b), x, .fn (.func g) [] [], .fn (.func h) [] []]) = match slK .i64 x with
    | some r => some ⟨s, b, r, some g, some h⟩
    | none => none := rfl
noncomputable def con74 : PCon Try.prog where
  f := 74
  c := fun
    | [xe, .lit (.int .i64 k), xout, xa] => match entOf xe, slK .i64 xout, arrOf xa with | some e, some out, some a => some (gatP e k out a, .sl false 1 (ints .i64 (gatherS (e.from_.getD 0) k out a (sizeS out).1.toNat))) | _, _, _ => none
    | _ => none
  ok := by
    intro args p r hc hp
    split at hc
    · split at hc
      · rename_i he hout ha
        cases hc
        exact PC.weak (gathP_pc hp) ⟨entOf_le he, LeA.refl _, slK_le hout, arrOf_le ha, trivial⟩
      · cases hc
    · cases hc
  fk := fk74
theorem con74_f : con74.f = 74 := rfl
theorem con74_c {xe : AV} {k : Int} {xout : AV} {xa : AV} : con74.c [xe, .lit (.int .i64 k), xout, xa] = match entOf xe, slK .i64 xout, arrOf xa with | some e, some out, some a => some (gatP e k out a, .sl false 1 (ints .i64 (gatherS (e.from_.getD 0) k out a (sizeS out).1.toNat))) | _, _, _ => none := rfl
noncomputable def con73 : PCon Try.prog where
  f := 73
  c := fun
    | [.lit (.string op), xcs] => match arrsOf xcs with | some cs => some (2 ≤ cs.length ∧ (eqS op n_index = false → 3 ≤ cs.length ∧ 0 < (cs.getD 2 nilA).x.length) ∧ 0 < (cs.getD 1 nilA).x.length ∧ (cs.getD 0 nilA).x.length ≤ 1000000, ibV (checkedS op cs)) | _ => none
    | _ => none
  ok := by
    intro args p r hc hp
    split at hc
    · split at hc
      · rename_i hcs
        cases hc
        exact PC.weak ((fun hp : _ ∧ _ ∧ _ ∧ _ => checked_pc hp.1 hp.2.1 hp.2.2.1 hp.2.2.2) hp) ⟨LeA.refl _, arrsOf_le hcs, trivial⟩
      · cases hc
    · cases hc
  fk := fk73
theorem con73_f : con73.f = 73 := rfl
theorem con73_c {op : ByteArray} {xcs : AV} : con73.c [.lit (.string op), xcs] = match arrsOf xcs with | some cs => some (2 ≤ cs.length ∧ (eqS op n_index = false → 3 ≤ cs.length ∧ 0 < (cs.getD 2 nilA).x.length) ∧ 0 < (cs.getD 1 nilA).x.length ∧ (cs.getD 0 nilA).x.length ≤ 1000000, ibV (checkedS op cs)) | _ => none := rfl
theorem con74_d {s : ByteArray} {b : Bool} {x y z : AV} {g h : Nat} {k : Int} : con74.c [.agg [.lit (.string s), .lit (.bool b), x, .fn (.func g) [] [], .fn (.func h) [] []], .lit (.int .i64 k), y, z] = match slK .i64 x, slK .i64 y, arrOf z with
    | some r, some out, some a => some (gatP ⟨s, b, r, some g, some h⟩ k out a, .sl false 1 (ints .i64 (gatherS h k out a (sizeS out).1.toNat)))
    | _, _, _ => none := by
  rw [con74_c, entOf_mv]
  cases slK .i64 x with
  | none => rfl
  | some r => cases slK .i64 y with
    | none => rfl
    | some out => cases arrOf z with
      | none => rfl
      | some a => rfl
def valA (a : Arr) : Bool := ofE a == 0
def rangeS (n : Nat) : List Int := (List.range n).map fun (i : Nat) => (i : Int)
def dataS (op : ByteArray) (k : Int) (d : List Int) (cs : List Arr) (g : Nat) : List Int × Bool :=
  if eqS op n_iota = true then (rangeS (d.getD 0 0).toNat, false)
  else if (eqS op n_append || eqS op n_pack) = true then (cs.flatMap (·.x), false)
  else if selS op = true then checkedS op cs
  else (gatherS g k d (cs.getD 0 nilA) (sizeS d).1.toNat, false)
def applyT (op : ByteArray) (k : Int) (cs : List Arr) (g : Nat) (r : ByteArray × Bool) (D : List Int × Int) : Arr × Bool × Int :=
  if r.2 = false then (nilA, false, 12)
  else if D.2 ≠ 0 then (nilA, false, D.2)
  else (⟨r.1, D.1, (dataS op k D.1 cs g).1⟩, (dataS op k D.1 cs g).2, 0)
def applyS (op : ByteArray) (ns : List Int) (num : Int) (cs : List Arr) : Arr × Bool × Int :=
  if (givenS op ns.length num cs.length).2 ≠ 0 then (nilA, false, (givenS op ns.length num cs.length).2)
  else if cs.all valA = false then (nilA, false, 1)
  else applyT op (sizeK ns num) cs ((givenS op ns.length num cs.length).1.from_.getD 0) (resultS op (cs.map (·.e))) (dimsI op ns num (cs.map (·.d)))
theorem cls_full {op : ByteArray} {ns : List Int} {num : Int} {cs : List Arr} {e : Ent} (hG : givenS op ns.length num cs.length = (e, 0)) (hv : ∀ a ∈ cs, ofE a = 0) (h : (dimsI op ns num (cs.map (·.d))).2 = 0) :
    Cls op (sizeK ns num) cs (dimsI op ns num (cs.map (·.d))).1 e := by
  generalize hD : dimsI op ns num (cs.map (·.d)) = D at h ⊢
  obtain ⟨d, de⟩ := D
  simp only at h
  subst h
  obtain ⟨h1, h2, h3, _⟩ := shp_of hD
  exact cls_of h1 hv h2 hG
def appV (r : Arr × Bool × Int) : AV := .tup [arrV r.1, .lit (.bool r.2.1), .lit (.int .i64 r.2.2)]
theorem appV_def {r : Arr × Bool × Int} : appV r = .tup [arrV r.1, .lit (.bool r.2.1), .lit (.int .i64 r.2.2)] := rfl
theorem app_of {e : ByteArray} {x y : AV} {b : Bool} {n : Int} {d w : List Int} {r : Arr × Bool × Int} (hx : slK .i64 x = some d) (hy : slK .i64 y = some w) (h : r = (⟨e, d, w⟩, b, n)) : LeA (.tup [.agg [.lit (.string e), x, y], .lit (.bool b), .lit (.int .i64 n)]) (appV r) := by
  subst h
  exact LeA.tup ⟨LeA.agg ⟨LeA.refl _, slK_le hx, slK_le hy, trivial⟩, LeA.refl _, LeA.refl _, trivial⟩
def elT (cs : List Arr) (i : Nat) : List ByteArray := (cs.take i).map (·.e)
def dmT (cs : List Arr) (i : Nat) : List (List Int) := (cs.take i).map (·.d)
def xsT (cs : List Arr) (i : Nat) : List Int := (cs.take i).flatMap (·.x)
theorem take_getD {cs : List Arr} {i : Nat} (h : i < cs.length) : cs.take (i + 1) = cs.take i ++ [cs.getD i nilA] := by
  rw [List.take_add_one, List.getElem?_eq_getElem h, List.getD_eq_getElem?_getD, List.getElem?_eq_getElem h]; rfl
theorem elT_succ {cs : List Arr} {i : Nat} (h : i < cs.length) : elT cs (i + 1) = elT cs i ++ [(cs.getD i nilA).e] := by simp only [elT, take_getD h, List.map_append, List.map_cons, List.map_nil]
theorem dmT_succ {cs : List Arr} {i : Nat} (h : i < cs.length) : dmT cs (i + 1) = dmT cs i ++ [(cs.getD i nilA).d] := by simp only [dmT, take_getD h, List.map_append, List.map_cons, List.map_nil]
theorem xsT_succ {cs : List Arr} {i : Nat} (h : i < cs.length) : xsT cs (i + 1) = xsT cs i ++ (cs.getD i nilA).x := by simp only [xsT, take_getD h, List.flatMap_append, List.flatMap_cons, List.flatMap_nil, List.append_nil]
theorem elT_all {cs : List Arr} : elT cs cs.length = cs.map (·.e) := by simp [elT]
theorem dmT_all {cs : List Arr} : dmT cs cs.length = cs.map (·.d) := by simp [dmT]
theorem xsT_all {cs : List Arr} : xsT cs cs.length = cs.flatMap (·.x) := by simp [xsT]
theorem elT_len {cs : List Arr} {i : Nat} (h : i ≤ cs.length) : (elT cs i).length = i := by simp [elT]; omega
theorem dmT_len {cs : List Arr} {i : Nat} (h : i ≤ cs.length) : (dmT cs i).length = i := by simp [dmT]; omega
theorem xsT_zero {cs : List Arr} : xsT cs 0 = [] := rfl
theorem rangeS_zero : rangeS 0 = [] := rfl
theorem rangeS_succ {n : Nat} : rangeS (n + 1) = rangeS n ++ [(n : Int)] := by simp [rangeS, List.range_succ]
theorem rangeS_len (n : Nat) : (rangeS n).length = n := by simp [rangeS]
theorem xsT_le (cs : List Arr) (i : Nat) : (xsT cs i).length ≤ (cs.flatMap (·.x)).length := by
  have h : cs.flatMap (·.x) = xsT cs i ++ (cs.drop i).flatMap (·.x) := by
    unfold xsT
    rw [← List.flatMap_append, List.take_append_drop]
  rw [h, List.length_append]; omega
theorem ents_dims {e : Ent} {n : Int} (h : e ∈ ents ∨ e = packE n) : ∃ g, e.dims = some g := by
  rcases h with h | rfl
  · simp only [ents, List.mem_cons, List.not_mem_nil, or_false] at h
    rcases h with rfl | rfl | rfl | rfl | rfl | rfl | rfl | rfl | rfl | rfl | rfl | rfl <;> exact ⟨_, rfl⟩
  · exact ⟨_, rfl⟩
theorem strs_nil' : strs [] = [] := rfl
theorem ils_nil' : ils [] = [] := rfl
theorem all_drop {cs : List Arr} {i : Nat} (h : i < cs.length) : (cs.drop i).all valA = (valA (cs.getD i nilA) && (cs.drop (i + 1)).all valA) := by
  rw [drop_getD nilA h, List.all_cons]
noncomputable def K1 : Env := envJ (P := Try.prog) jk2 zer (fun _ => false) (fun _ => false) [con42, con43, con60, con72, con73, con74, con75] []
theorem K1_ok : EnvOk Try.prog K1 := envJOk zer_ok
theorem low_fnV {n : Nat} {p : Option Nat} : low1 n (fnV p) = true := by cases p <;> rfl
structure Two where
  i : Nat
  v : Nat
  u : Nat
set_option maxHeartbeats 8000000 in
theorem apply_pc {op : ByteArray} {ns : List Int} {num : Int} {cs : List Arr} (hn : cs.length ≤ 4096) (ho : ∀ a ∈ cs, okA a) : PC Try.prog 40 [.lit (.string op), .sl false 1 (ints .i64 ns), .lit (.int .i64 num), .sl false 3 (arrs cs)] (appV (applyS op ns num cs)) := by
  generalize hR : applyS op ns num cs = R
  unfold applyS at hR
  generalize hG : givenS op ns.length num cs.length = r at hR
  obtain ⟨e, er⟩ := r
  simp only at hR
  by_cases h0 : er = 0
  · subst h0
    rw [if_neg (by simp)] at hR
    obtain ⟨s, b, rk, o, p⟩ := e
    have hcl : (∀ a ∈ cs, ofE a = 0) → (dimsI op ns num (cs.map (·.d))).2 = 0 → Cls op (sizeK ns num) cs (dimsI op ns num (cs.map (·.d))).1 ⟨s, b, rk, o, p⟩ := fun hv h => cls_full hG hv h
    obtain ⟨g1, ho1⟩ := ents_dims (given_ok hG).1
    simp only at ho1
    have hl1 : (cs.map (·.e)).length = cs.length := List.length_map ..
    have hl2 : (cs.map (·.d)).length = cs.length := List.length_map ..
    generalize hr : resultS op (cs.map (·.e)) = q at hR
    generalize hD : dimsI op ns num (cs.map (·.d)) = D at hR hcl
    generalize hA : cs.all valA = AA at hR
    obtain ⟨el, okk⟩ := q
    obtain ⟨d, de⟩ := D
    simp only at hR hcl
    refine pc_ofR K1_ok mixed (kp40) (rs := [.cell 8 33, .tmp 9, .tmp 10]) Try.func40 rfl (by kernel_rfl) (by kernel_rfl) (Nat.le_of_ble_eq_true rfl) ?_
    simp only [initF_cons, initF_nil, Nat.reduceAdd]
    refine t_name fun KF => ?_
    unfold K1
    repeat' (first
     | (with_reducible first | refine t_seq fun K => ?_ | refine t_block ?_ | refine t_scope ?_ | refine t_label ?_ | refine t_skip ?_ | refine t_exit ?_ | refine t_ret ?_ | refine t_k ?_ | refine t_gF ?_ | exact kp_nil | exact Kp.refl _ | exact kp_to | refine kp_cons ?_ | refine kp_arr ?_ | refine kp_app ?_ | refine t_p ?_ | refine t_br (fun hc => ?_) fun hc => ?_)
     | ((with_reducible first | refine t_kE (t_openE ?_) | refine t_kD (t_openD ?_) | refine t_kE ?_ | refine t_kD ?_ | refine t_gS ?_ | refine t_kL ?_ | refine t_kLF ?_ ?_ | refine t_region fun K => ?_ | refine t_cond fun A B => ?_ | refine t_drawE (id := 11) (fun _ => true) [(0, true), (1, true), (2, true), (3, true), (5, true), (6, true), (7, true), (8, true), (4, false), (9, false), (10, true), (11, true)] (by kernel_rfl) fun K => ?_ | refine t_drawE (id := 21) (fun i => i == 1) [(0, true), (1, true), (2, true), (4, true), (5, true), (6, true), (7, true), (3, false), (8, false), (9, true), (10, false)] (by kernel_rfl) fun K => ?_ | refine t_draw (by kernel_rfl) fun K => ?_); (try (first | refine t_hideE fun KL => ?_ | refine t_hideD fun KL => ?_)); simp only [go_sem, geff, kp40, con42_f, con43_f, con60_f, con72_f, con73_f, con74_f, con75_f, con72_c, arrs_length, slK_sl, gV_def, hG, entV_def])
     | ((with_reducible refine kp_skip ?_ ?_); rfl) | simp only [thenQ, blockQ, scopeQ, Nat.reduceEqDiff, reduceIte] | (with_reducible first | refine And.intro ?_ ?_ | intro vr))
    all_goals try (first | (with_reducible assumption) | (intros; (try simp only [Bool.and_eq_true, Bool.or_eq_true, Bool.or_eq_false_iff, Bool.not_eq_true', Bool.not_eq_false', decide_eq_true_eq, decide_eq_false_iff_not, beq_iff_eq, beq_eq_false_iff_ne, bne_iff_ne, bne_eq_false_iff_eq, ne_eq, inI64, List.length_append] at *) <;> omega))
    refine t_loopF (ι := { i : Two // i.i ≤ cs.length ∧ (cs.drop i.i).all valA = AA }) (fun i => [(38, .lit (.int .i64 i.1.i)), (12, .arr 2 i.1.v), (13, .arr 3 i.1.u)]) (fun i => [.box 33 [.lit (.string ByteArray.empty), .sl true 1 [], .sl true 1 []], .box 92 [.lit (.string s), .lit (.bool b), .sl false 1 (ints .i64 rk), fnV o, fnV p], .arr 9 1 (strs (elT cs i.1.i)) i.1.v false, .arr 23 1 (ils (dmT cs i.1.i)) i.1.u false]) (fun i => cs.length - i.1.i) ⟨⟨0, 0, 0⟩, by simp, hA⟩ ?_ ?_
    · refine (le_nil 12 9 1 rfl).trans ((le_nil 13 23 1 rfl).trans ?_)
      simp only [updL_nil, updL_cons, delF_top, delF_upd, Nat.reduceEqDiff, reduceIte]
      simp only [elT, dmT, List.take_zero, List.map_nil, strs_nil', ils_nil']
      refine Le.frameS (by first | rfl | (simp only [go_sem]; try rfl)) ?_
      repeat' (first | exact leF_top _ | exact (fun _ => LeR.refl _) | (with_reducible refine leF_sl ?_ ?_) | (refine leF_upd ?_ ?_))
      all_goals (first | exact LeR.top _ | exact LeR.refl _ | (refine LeR.of_eq ?_; (try simp only [go_sem]); try rfl) | ((try simp only [go_sem]); try rfl))
    rintro ⟨⟨i, v, u⟩, hi, hF⟩ K0
    simp only at hi hF
    rcases Nat.lt_or_ge i cs.length with hc | hc
    · rw [all_drop hc] at hF
      have g3 : decide ((i : Int) < (cs.length : Int)) = true := decide_eq_true (by omega)
      have hm : cs.getD i nilA ∈ cs := by rw [List.getD_eq_getElem?_getD, List.getElem?_eq_getElem hc]; exact List.getElem_mem hc
      have o1 := (ho _ hm).1
      have o2 := (ho _ hm).2
      have hl3 := elT_len (cs := cs) (i := i) (by omega)
      have hl4 := dmT_len (cs := cs) (i := i) (by omega)
      cases hv : (ofE (cs.getD i nilA) == 0) with
      | false =>
        rw [show valA (cs.getD i nilA) = false from hv, Bool.false_and] at hF
        rw [if_pos hF.symm] at hR
        repeat' (first
         | (with_reducible first | refine t_seq fun K => ?_ | refine t_block ?_ | refine t_scope ?_ | refine t_label ?_ | refine t_skip ?_ | refine t_exit ?_ | refine t_ret ?_ | refine t_k ?_ | refine t_gF ?_ | exact kp_nil | exact Kp.refl _ | exact kp_to | refine kp_cons ?_ | refine kp_arr ?_ | refine kp_app ?_ | refine t_p ?_ | refine t_br (fun hc => ?_) fun hc => ?_)
         | ((with_reducible first | refine t_kE (t_openE ?_) | refine t_kD (t_openD ?_) | refine t_kE ?_ | refine t_kD ?_ | refine t_gS ?_ | refine t_kL ?_ | refine t_kLF ?_ ?_ | refine t_region fun K => ?_ | refine t_cond fun A B => ?_ | refine t_drawE (id := 11) (fun _ => true) [(0, true), (1, true), (2, true), (3, true), (5, true), (6, true), (7, true), (8, true), (4, false), (9, false), (10, true), (11, true)] (by kernel_rfl) fun K => ?_ | refine t_drawE (id := 21) (fun i => i == 1) [(0, true), (1, true), (2, true), (4, true), (5, true), (6, true), (7, true), (3, false), (8, false), (9, true), (10, false)] (by kernel_rfl) fun K => ?_ | refine t_draw (by kernel_rfl) fun K => ?_); (try (first | refine t_hideE fun KL => ?_ | refine t_hideD fun KL => ?_)); simp only [go_sem, geff, kp40, g3, hv, Int.toNat_natCast, con42_f, con43_f, con60_f, con72_f, con73_f, con74_f, con75_f, con60_c, arrs_length, arrV_def', arrOf_agg, slK_sl, strs_length, ils_length, strs_append1, ils_app])
         | ((with_reducible refine kp_skip ?_ ?_); rfl) | simp only [thenQ, blockQ, scopeQ, Nat.reduceEqDiff, reduceIte] | (with_reducible first | refine And.intro ?_ ?_ | intro vr))
        all_goals try (first | (with_reducible assumption) | (intros; (try simp only [Bool.and_eq_true, Bool.or_eq_true, Bool.or_eq_false_iff, Bool.not_eq_true', Bool.not_eq_false', decide_eq_true_eq, decide_eq_false_iff_not, beq_iff_eq, beq_eq_false_iff_ne, bne_iff_ne, bne_eq_false_iff_eq, ne_eq, inI64, List.length_append] at *) <;> omega))
        all_goals ((first | refine end_retE ?_ | refine end_normE ?_); simp only [fin, go_sem])
        exact app_of rfl rfl hR.symm
      | true =>
        rw [show valA (cs.getD i nilA) = true from hv, Bool.true_and] at hF
        repeat' (first
         | (with_reducible first | refine t_seq fun K => ?_ | refine t_block ?_ | refine t_scope ?_ | refine t_label ?_ | refine t_skip ?_ | refine t_exit ?_ | refine t_ret ?_ | refine t_k ?_ | refine t_gF ?_ | exact kp_nil | exact Kp.refl _ | exact kp_to | refine kp_cons ?_ | refine kp_arr ?_ | refine kp_app ?_ | refine t_p ?_ | refine t_br (fun hc => ?_) fun hc => ?_)
         | ((with_reducible first | refine t_kE (t_openE ?_) | refine t_kD (t_openD ?_) | refine t_kE ?_ | refine t_kD ?_ | refine t_gS ?_ | refine t_kL ?_ | refine t_kLF ?_ ?_ | refine t_region fun K => ?_ | refine t_cond fun A B => ?_ | refine t_drawE (id := 11) (fun _ => true) [(0, true), (1, true), (2, true), (3, true), (5, true), (6, true), (7, true), (8, true), (4, false), (9, false), (10, true), (11, true)] (by kernel_rfl) fun K => ?_ | refine t_drawE (id := 21) (fun i => i == 1) [(0, true), (1, true), (2, true), (4, true), (5, true), (6, true), (7, true), (3, false), (8, false), (9, true), (10, false)] (by kernel_rfl) fun K => ?_ | refine t_draw (by kernel_rfl) fun K => ?_); (try (first | refine t_hideE fun KL => ?_ | refine t_hideD fun KL => ?_)); simp only [go_sem, geff, kp40, g3, hv, Int.toNat_natCast, con42_f, con43_f, con60_f, con72_f, con73_f, con74_f, con75_f, con60_c, arrs_length, arrV_def', arrOf_agg, slK_sl, strs_length, ils_length, strs_append1, ils_app])
         | ((with_reducible refine kp_skip ?_ ?_); rfl) | simp only [thenQ, blockQ, scopeQ, Nat.reduceEqDiff, reduceIte] | (with_reducible first | refine And.intro ?_ ?_ | intro vr))
        all_goals try (first | (with_reducible assumption) | (intros; (try simp only [Bool.and_eq_true, Bool.or_eq_true, Bool.or_eq_false_iff, Bool.not_eq_true', Bool.not_eq_false', decide_eq_true_eq, decide_eq_false_iff_not, beq_iff_eq, beq_eq_false_iff_ne, bne_iff_ne, bne_eq_false_iff_eq, ne_eq, inI64, List.length_append] at *) <;> omega))
        simp only [← elT_succ hc, ← dmT_succ hc]
        refine ⟨⟨⟨i + 1, v + 1, u + 1⟩, by simp only; omega, hF⟩, by first | (simp only; omega) | omega, ?_⟩
        simp only [updL_nil, updL_cons, delF_top, delF_upd, Nat.reduceEqDiff, reduceIte]
        refine le_backD (by first | rfl | (simp only [go_sem]; try rfl)) (by first | exact Nat.zero_le _ | simp) (by first | rfl | simp [lowO, low_lit, low_sl, low_ref, low_arr, low_fnV]) ?_ ?_
        · repeat' (first | exact low_top | (refine low_upd rfl ?_))
        repeat' (first | exact leF_top _ | exact (fun _ => LeR.refl _) | (with_reducible refine leF_sl ?_ ?_) | (refine leF_upd ?_ ?_))
        all_goals (first | exact LeR.top _ | exact LeR.refl _ | (refine LeR.of_eq ?_; (try simp only [go_sem]); try rfl) | ((try simp only [go_sem]); try rfl))
    · have hie : i = cs.length := by omega
      rw [hie, List.drop_eq_nil_of_le (by omega), List.all_nil] at hF
      rw [if_neg (by rw [← hF]; simp)] at hR
      have g3 : decide ((cs.length : Int) < (cs.length : Int)) = false := decide_eq_false (by omega)
      unfold applyT at hR
      have hv : ∀ a ∈ cs, ofE a = 0 := fun a ha => by
        rw [← hF, List.all_eq_true] at hA
        exact beq_iff_eq.1 (hA a ha)
      have hcl := hcl hv
      cases okk with
      | false =>
        rw [if_pos rfl] at hR
        repeat' (first
         | (with_reducible first | refine t_seq fun K => ?_ | refine t_block ?_ | refine t_scope ?_ | refine t_label ?_ | refine t_skip ?_ | refine t_exit ?_ | refine t_ret ?_ | refine t_k ?_ | refine t_gF ?_ | exact kp_nil | exact Kp.refl _ | exact kp_to | refine kp_cons ?_ | refine kp_arr ?_ | refine kp_app ?_ | refine t_p ?_ | refine t_br (fun hc => ?_) fun hc => ?_)
         | ((with_reducible first | refine t_kE (t_openE ?_) | refine t_kD (t_openD ?_) | refine t_kE ?_ | refine t_kD ?_ | refine t_gS ?_ | refine t_kL ?_ | refine t_kLF ?_ ?_ | refine t_region fun K => ?_ | refine t_cond fun A B => ?_ | refine t_drawE (id := 11) (fun _ => true) [(0, true), (1, true), (2, true), (3, true), (5, true), (6, true), (7, true), (8, true), (4, false), (9, false), (10, true), (11, true)] (by kernel_rfl) fun K => ?_ | refine t_drawE (id := 21) (fun i => i == 1) [(0, true), (1, true), (2, true), (4, true), (5, true), (6, true), (7, true), (3, false), (8, false), (9, true), (10, false)] (by kernel_rfl) fun K => ?_ | refine t_draw (by kernel_rfl) fun K => ?_); (try (first | refine t_hideE fun KL => ?_ | refine t_hideD fun KL => ?_)); simp only [go_sem, geff, kp40, hie, g3, hr, Int.toNat_natCast, con42_f, con43_f, con60_f, con72_f, con73_f, con74_f, con75_f, con42_c, slS_sl, elT_all, dmT_all, sbV_def])
         | ((with_reducible refine kp_skip ?_ ?_); rfl) | simp only [thenQ, blockQ, scopeQ, Nat.reduceEqDiff, reduceIte] | (with_reducible first | refine And.intro ?_ ?_ | intro vr))
        all_goals try (first | (with_reducible assumption) | (intros; (try simp only [Bool.and_eq_true, Bool.or_eq_true, Bool.or_eq_false_iff, Bool.not_eq_true', Bool.not_eq_false', decide_eq_true_eq, decide_eq_false_iff_not, beq_iff_eq, beq_eq_false_iff_ne, bne_iff_ne, bne_eq_false_iff_eq, ne_eq, inI64, List.length_append] at *) <;> omega))
        all_goals ((first | refine end_retE ?_ | refine end_normE ?_); simp only [fin, go_sem])
        exact app_of rfl rfl hR.symm
      | true =>
        rw [if_neg (by simp)] at hR
        by_cases hde : de = 0
        · subst hde
          rw [if_neg (by simp)] at hR
          have hcl := hcl rfl
          cases hcl with
          | iota n q1 hd hn =>
            subst hd
            have q1' : eqS op ⟨#[105, 111, 116, 97]⟩ = true := q1
            unfold dataS at hR
            rw [q1, if_pos rfl] at hR
            simp only [List.getD_cons_zero] at hR
            repeat' (first
             | (with_reducible first | refine t_seq fun K => ?_ | refine t_block ?_ | refine t_scope ?_ | refine t_label ?_ | refine t_skip ?_ | refine t_exit ?_ | refine t_ret ?_ | refine t_k ?_ | refine t_gF ?_ | exact kp_nil | exact Kp.refl _ | exact kp_to | refine kp_cons ?_ | refine kp_arr ?_ | refine kp_app ?_ | refine t_p ?_ | refine t_br (fun hc => ?_) fun hc => ?_)
             | ((with_reducible first | refine t_kE (t_openE ?_) | refine t_kD (t_openD ?_) | refine t_kE ?_ | refine t_kD ?_ | refine t_gS ?_ | refine t_kL ?_ | refine t_kLF ?_ ?_ | refine t_region fun K => ?_ | refine t_cond fun A B => ?_ | refine t_drawE (id := 11) (fun _ => true) [(0, true), (1, true), (2, true), (3, true), (5, true), (6, true), (7, true), (8, true), (4, false), (9, false), (10, true), (11, true)] (by kernel_rfl) fun K => ?_ | refine t_drawE (id := 21) (fun i => i == 1) [(0, true), (1, true), (2, true), (4, true), (5, true), (6, true), (7, true), (3, false), (8, false), (9, true), (10, false)] (by kernel_rfl) fun K => ?_ | refine t_draw (by kernel_rfl) fun K => ?_); (try (first | refine t_hideE fun KL => ?_ | refine t_hideD fun KL => ?_)); simp only [go_sem, geff, kp40, hie, g3, hr, hD, q1', Int.toNat_natCast, con42_f, con43_f, con60_f, con72_f, con73_f, con74_f, con75_f, con42_c, con43_c, slS_sl, slK_sl, ilsOf_sl, elT_all, dmT_all, sbV_def, dV_def, List.getD_cons_zero])
             | ((with_reducible refine kp_skip ?_ ?_); rfl) | simp only [thenQ, blockQ, scopeQ, Nat.reduceEqDiff, reduceIte] | (with_reducible first | refine And.intro ?_ ?_ | intro vr))
            all_goals try (first | (with_reducible assumption) | (intros; (try simp only [Bool.and_eq_true, Bool.or_eq_true, Bool.or_eq_false_iff, Bool.not_eq_true', Bool.not_eq_false', decide_eq_true_eq, decide_eq_false_iff_not, beq_iff_eq, beq_eq_false_iff_ne, bne_iff_ne, bne_eq_false_iff_eq, ne_eq, inI64, List.length_append] at *) <;> omega))
            have hn1 := hn.1
            have hn2 := hn.2
            refine t_loopF (ι := { i : Gat // (i.i : Int) ≤ n }) (fun i => [(97, .lit (.int .i64 i.1.i))]) (fun i => [.box 33 [.lit (.string ByteArray.empty), .sl true 1 [], .sl true 1 []], .box 92 [.lit (.string s), .lit (.bool b), .sl false 1 (ints .i64 rk), fnV o, fnV p], .arr 9 1 (strs (cs.map (·.e))) v false, .arr 23 1 (ils (cs.map (·.d))) u true, .box 33 [.lit (.string el), .sl false 1 (ints .i64 [n]), .arr 5 i.1.v], .arr 3 1 (ints .i64 (rangeS i.1.i)) i.1.v false]) (fun i => n.toNat - i.1.i) ⟨⟨0, 0⟩, by simpa using hn1⟩ ?_ ?_
            · refine (le_nilB 4 2 3 1 (cs := [.lit (.string el), .sl false 1 (ints .i64 [n]), .sl true 1 []]) rfl (by simp) nil_sl).trans ?_
              simp only [updL_nil, updL_cons, delF_top, delF_upd, Nat.reduceEqDiff, reduceIte]
              simp only [rangeS_zero, ints_nil]
              refine Le.frameS (by first | rfl | (simp only [go_sem]; try rfl)) ?_
              repeat' (first | exact leF_top _ | exact (fun _ => LeR.refl _) | (with_reducible refine leF_sl ?_ ?_) | (refine leF_upd ?_ ?_))
              all_goals (first | exact LeR.top _ | exact LeR.refl _ | (refine LeR.of_eq ?_; (try simp only [go_sem]); try rfl) | ((try simp only [go_sem]); try rfl))
            rintro ⟨⟨j, w⟩, hj⟩ K1
            simp only at hj
            by_cases hc2 : (j : Int) < n
            · have g4 : decide ((j : Int) < n) = true := decide_eq_true hc2
              have hb := rangeS_len j
              repeat' (first
               | (with_reducible first | refine t_seq fun K => ?_ | refine t_block ?_ | refine t_scope ?_ | refine t_label ?_ | refine t_skip ?_ | refine t_exit ?_ | refine t_ret ?_ | refine t_k ?_ | refine t_gF ?_ | exact kp_nil | exact Kp.refl _ | exact kp_to | refine kp_cons ?_ | refine kp_arr ?_ | refine kp_app ?_ | refine t_p ?_ | refine t_br (fun hc => ?_) fun hc => ?_)
               | ((with_reducible first | refine t_kE (t_openE ?_) | refine t_kD (t_openD ?_) | refine t_kE ?_ | refine t_kD ?_ | refine t_gS ?_ | refine t_kL ?_ | refine t_kLF ?_ ?_ | refine t_region fun K => ?_ | refine t_cond fun A B => ?_ | refine t_drawE (id := 11) (fun _ => true) [(0, true), (1, true), (2, true), (3, true), (5, true), (6, true), (7, true), (8, true), (4, false), (9, false), (10, true), (11, true)] (by kernel_rfl) fun K => ?_ | refine t_drawE (id := 21) (fun i => i == 1) [(0, true), (1, true), (2, true), (4, true), (5, true), (6, true), (7, true), (3, false), (8, false), (9, true), (10, false)] (by kernel_rfl) fun K => ?_ | refine t_draw (by kernel_rfl) fun K => ?_); (try (first | refine t_hideE fun KL => ?_ | refine t_hideD fun KL => ?_)); simp only [go_sem, geff, kp40, g4, Int.toNat_natCast, con42_f, con43_f, con60_f, con72_f, con73_f, con74_f, con75_f])
               | ((with_reducible refine kp_skip ?_ ?_); rfl) | simp only [thenQ, blockQ, scopeQ, Nat.reduceEqDiff, reduceIte] | (with_reducible first | refine And.intro ?_ ?_ | intro vr))
              all_goals try (first | (with_reducible assumption) | (intros; (try simp only [Bool.and_eq_true, Bool.or_eq_true, Bool.or_eq_false_iff, Bool.not_eq_true', Bool.not_eq_false', decide_eq_true_eq, decide_eq_false_iff_not, beq_iff_eq, beq_eq_false_iff_ne, bne_iff_ne, bne_eq_false_iff_eq, ne_eq, inI64, List.length_append] at *) <;> omega))
              simp only [← rangeS_succ]
              refine ⟨⟨⟨j + 1, w + 1⟩, by simp only; omega⟩, by first | (simp only; omega) | omega, ?_⟩
              simp only [updL_nil, updL_cons, delF_top, delF_upd, Nat.reduceEqDiff, reduceIte]
              refine Le.frameS (by first | rfl | (simp only [go_sem]; try rfl)) ?_
              repeat' (first | exact leF_top _ | exact (fun _ => LeR.refl _) | (with_reducible refine leF_sl ?_ ?_) | (refine leF_upd ?_ ?_))
              all_goals (first | exact LeR.top _ | exact LeR.refl _ | (refine LeR.of_eq ?_; (try simp only [go_sem]); try rfl) | ((try simp only [go_sem]); try rfl))
            · have hje : n = (j : Int) := by omega
              have g4 : decide ((j : Int) < (j : Int)) = false := decide_eq_false (by omega)
              rw [hje] at hR
              repeat' (first
               | (with_reducible first | refine t_seq fun K => ?_ | refine t_block ?_ | refine t_scope ?_ | refine t_label ?_ | refine t_skip ?_ | refine t_exit ?_ | refine t_ret ?_ | refine t_k ?_ | refine t_gF ?_ | exact kp_nil | exact Kp.refl _ | exact kp_to | refine kp_cons ?_ | refine kp_arr ?_ | refine kp_app ?_ | refine t_p ?_ | refine t_br (fun hc => ?_) fun hc => ?_)
               | ((with_reducible first | refine t_kE (t_openE ?_) | refine t_kD (t_openD ?_) | refine t_kE ?_ | refine t_kD ?_ | refine t_gS ?_ | refine t_kL ?_ | refine t_kLF ?_ ?_ | refine t_region fun K => ?_ | refine t_cond fun A B => ?_ | refine t_drawE (id := 11) (fun _ => true) [(0, true), (1, true), (2, true), (3, true), (5, true), (6, true), (7, true), (8, true), (4, false), (9, false), (10, true), (11, true)] (by kernel_rfl) fun K => ?_ | refine t_drawE (id := 21) (fun i => i == 1) [(0, true), (1, true), (2, true), (4, true), (5, true), (6, true), (7, true), (3, false), (8, false), (9, true), (10, false)] (by kernel_rfl) fun K => ?_ | refine t_draw (by kernel_rfl) fun K => ?_); (try (first | refine t_hideE fun KL => ?_ | refine t_hideD fun KL => ?_)); simp only [go_sem, geff, kp40, hje, g4, Int.toNat_natCast, con42_f, con43_f, con60_f, con72_f, con73_f, con74_f, con75_f])
               | ((with_reducible refine kp_skip ?_ ?_); rfl) | simp only [thenQ, blockQ, scopeQ, Nat.reduceEqDiff, reduceIte] | (with_reducible first | refine And.intro ?_ ?_ | intro vr))
              all_goals try (first | (with_reducible assumption) | (intros; (try simp only [Bool.and_eq_true, Bool.or_eq_true, Bool.or_eq_false_iff, Bool.not_eq_true', Bool.not_eq_false', decide_eq_true_eq, decide_eq_false_iff_not, beq_iff_eq, beq_eq_false_iff_ne, bne_iff_ne, bne_eq_false_iff_eq, ne_eq, inI64, List.length_append] at *) <;> omega))
              all_goals ((first | refine end_retE ?_ | refine end_normE ?_); simp only [fin, go_sem])
              exact app_of (by first | exact slK_sl | rfl) slK_sl hR.symm
          | join q1 q2 hl =>
            have q1' : eqS op ⟨#[105, 111, 116, 97]⟩ = false := q1
            unfold dataS at hR
            rw [q1, if_neg (by simp), if_pos q2] at hR
            have xsT_le := fun (l : List Arr) (i : Nat) => Nat.le_trans (xsT_le l i) (show (l.flatMap (·.x)).length ≤ (l.flatMap (·.x)).length from Nat.le_refl _)
            rcases Bool.eq_false_or_eq_true (eqS op n_append) with qa | qa
            · have qa' : eqS op ⟨#[97, 112, 112, 101, 110, 100]⟩ = true := qa
              repeat' (first
               | (with_reducible first | refine t_seq fun K => ?_ | refine t_block ?_ | refine t_scope ?_ | refine t_label ?_ | refine t_skip ?_ | refine t_exit ?_ | refine t_ret ?_ | refine t_k ?_ | refine t_gF ?_ | exact kp_nil | exact Kp.refl _ | exact kp_to | refine kp_cons ?_ | refine kp_arr ?_ | refine kp_app ?_ | refine t_p ?_ | refine t_br (fun hc => ?_) fun hc => ?_)
               | ((with_reducible first | refine t_kE (t_openE ?_) | refine t_kD (t_openD ?_) | refine t_kE ?_ | refine t_kD ?_ | refine t_gS ?_ | refine t_kL ?_ | refine t_kLF ?_ ?_ | refine t_region fun K => ?_ | refine t_cond fun A B => ?_ | refine t_drawE (id := 11) (fun _ => true) [(0, true), (1, true), (2, true), (3, true), (5, true), (6, true), (7, true), (8, true), (4, false), (9, false), (10, true), (11, true)] (by kernel_rfl) fun K => ?_ | refine t_drawE (id := 21) (fun i => i == 1) [(0, true), (1, true), (2, true), (4, true), (5, true), (6, true), (7, true), (3, false), (8, false), (9, true), (10, false)] (by kernel_rfl) fun K => ?_ | refine t_draw (by kernel_rfl) fun K => ?_); (try (first | refine t_hideE fun KL => ?_ | refine t_hideD fun KL => ?_)); simp only [go_sem, geff, kp40, qa', q1', hie, g3, hr, hD, arrs_length, Int.toNat_natCast, con42_f, con43_f, con60_f, con72_f, con73_f, con74_f, con75_f, con42_c, con43_c, slS_sl, slK_sl, ilsOf_sl, elT_all, dmT_all, sbV_def, dV_def, List.getD_cons_zero])
               | ((with_reducible refine kp_skip ?_ ?_); rfl) | simp only [thenQ, blockQ, scopeQ, Nat.reduceEqDiff, reduceIte] | (with_reducible first | refine And.intro ?_ ?_ | intro vr))
              all_goals try (first | (with_reducible assumption) | (intros; (try simp only [Bool.and_eq_true, Bool.or_eq_true, Bool.or_eq_false_iff, Bool.not_eq_true', Bool.not_eq_false', decide_eq_true_eq, decide_eq_false_iff_not, beq_iff_eq, beq_eq_false_iff_ne, bne_iff_ne, bne_eq_false_iff_eq, ne_eq, inI64, List.length_append] at *) <;> omega))
              refine t_loopF (ι := { i : Gat // i.i ≤ cs.length }) (fun i => [(112, .lit (.int .i64 i.1.i))]) (fun i => [.box 33 [.lit (.string ByteArray.empty), .sl true 1 [], .sl true 1 []], .box 92 [.lit (.string s), .lit (.bool b), .sl false 1 (ints .i64 rk), fnV o, fnV p], .arr 9 1 (strs (cs.map (·.e))) v false, .arr 23 1 (ils (cs.map (·.d))) u true, .box 33 [.lit (.string el), .sl false 1 (ints .i64 d), .arr 5 i.1.v], .arr 3 1 (ints .i64 (xsT cs i.1.i)) i.1.v false]) (fun i => cs.length - i.1.i) ⟨⟨0, 0⟩, by simp⟩ ?_ ?_
              · refine (le_nilB 4 2 3 1 (cs := [.lit (.string el), .sl false 1 (ints .i64 d), .sl true 1 []]) rfl (by simp) nil_sl).trans ?_
                simp only [updL_nil, updL_cons, delF_top, delF_upd, Nat.reduceEqDiff, reduceIte]
                simp only [xsT_zero, ints_nil]
                refine Le.frameS (by first | rfl | (simp only [go_sem]; try rfl)) ?_
                repeat' (first | exact leF_top _ | exact (fun _ => LeR.refl _) | (with_reducible refine leF_sl ?_ ?_) | (refine leF_upd ?_ ?_))
                all_goals (first | exact LeR.top _ | exact LeR.refl _ | (refine LeR.of_eq ?_; (try simp only [go_sem]); try rfl) | ((try simp only [go_sem]); try rfl))
              rintro ⟨⟨j, w⟩, hj⟩ K1
              simp only at hj
              rcases Nat.lt_or_ge j cs.length with hc2 | hc2
              · have g4 : decide ((j : Int) < (cs.length : Int)) = true := decide_eq_true (by omega)
                have hb := xsT_le cs j
                have hb2 := xsT_le cs (j + 1)
                rw [xsT_succ hc2, List.length_append] at hb2
                repeat' (first
                 | (with_reducible first | refine t_seq fun K => ?_ | refine t_block ?_ | refine t_scope ?_ | refine t_label ?_ | refine t_skip ?_ | refine t_exit ?_ | refine t_ret ?_ | refine t_k ?_ | refine t_gF ?_ | exact kp_nil | exact Kp.refl _ | exact kp_to | refine kp_cons ?_ | refine kp_arr ?_ | refine kp_app ?_ | refine t_p ?_ | refine t_br (fun hc => ?_) fun hc => ?_)
                 | ((with_reducible first | refine t_kE (t_openE ?_) | refine t_kD (t_openD ?_) | refine t_kE ?_ | refine t_kD ?_ | refine t_gS ?_ | refine t_kL ?_ | refine t_kLF ?_ ?_ | refine t_region fun K => ?_ | refine t_cond fun A B => ?_ | refine t_drawE (id := 11) (fun _ => true) [(0, true), (1, true), (2, true), (3, true), (5, true), (6, true), (7, true), (8, true), (4, false), (9, false), (10, true), (11, true)] (by kernel_rfl) fun K => ?_ | refine t_drawE (id := 21) (fun i => i == 1) [(0, true), (1, true), (2, true), (4, true), (5, true), (6, true), (7, true), (3, false), (8, false), (9, true), (10, false)] (by kernel_rfl) fun K => ?_ | refine t_draw (by kernel_rfl) fun K => ?_); (try (first | refine t_hideE fun KL => ?_ | refine t_hideD fun KL => ?_)); simp only [go_sem, geff, kp40, g4, Int.toNat_natCast, con42_f, con43_f, con60_f, con72_f, con73_f, con74_f, con75_f, arrs_length, arrV_def'])
                 | ((with_reducible refine kp_skip ?_ ?_); rfl) | simp only [thenQ, blockQ, scopeQ, Nat.reduceEqDiff, reduceIte] | (with_reducible first | refine And.intro ?_ ?_ | intro vr))
                all_goals try (first | (with_reducible assumption) | (intros; (try simp only [Bool.and_eq_true, Bool.or_eq_true, Bool.or_eq_false_iff, Bool.not_eq_true', Bool.not_eq_false', decide_eq_true_eq, decide_eq_false_iff_not, beq_iff_eq, beq_eq_false_iff_ne, bne_iff_ne, bne_eq_false_iff_eq, ne_eq, inI64, List.length_append] at *) <;> omega))
                simp only [ints_append, ← xsT_succ hc2]
                refine ⟨⟨⟨j + 1, w + 1⟩, by simp only; omega⟩, by first | (simp only; omega) | omega, ?_⟩
                simp only [updL_nil, updL_cons, delF_top, delF_upd, Nat.reduceEqDiff, reduceIte]
                refine le_backD (by first | rfl | (simp only [go_sem]; try rfl)) (by first | exact Nat.zero_le _ | simp) (by first | rfl | simp [lowO, low_lit, low_sl, low_ref, low_arr, low_fnV]) ?_ ?_
                · repeat' (first | exact low_top | (refine low_upd rfl ?_))
                repeat' (first | exact leF_top _ | exact (fun _ => LeR.refl _) | (with_reducible refine leF_sl ?_ ?_) | (refine leF_upd ?_ ?_))
                all_goals (first | exact LeR.top _ | exact LeR.refl _ | (refine LeR.of_eq ?_; (try simp only [go_sem]); try rfl) | ((try simp only [go_sem]); try rfl))
              · have hje : j = cs.length := by omega
                have g4 : decide ((cs.length : Int) < (cs.length : Int)) = false := decide_eq_false (by omega)
                repeat' (first
                 | (with_reducible first | refine t_seq fun K => ?_ | refine t_block ?_ | refine t_scope ?_ | refine t_label ?_ | refine t_skip ?_ | refine t_exit ?_ | refine t_ret ?_ | refine t_k ?_ | refine t_gF ?_ | exact kp_nil | exact Kp.refl _ | exact kp_to | refine kp_cons ?_ | refine kp_arr ?_ | refine kp_app ?_ | refine t_p ?_ | refine t_br (fun hc => ?_) fun hc => ?_)
                 | ((with_reducible first | refine t_kE (t_openE ?_) | refine t_kD (t_openD ?_) | refine t_kE ?_ | refine t_kD ?_ | refine t_gS ?_ | refine t_kL ?_ | refine t_kLF ?_ ?_ | refine t_region fun K => ?_ | refine t_cond fun A B => ?_ | refine t_drawE (id := 11) (fun _ => true) [(0, true), (1, true), (2, true), (3, true), (5, true), (6, true), (7, true), (8, true), (4, false), (9, false), (10, true), (11, true)] (by kernel_rfl) fun K => ?_ | refine t_drawE (id := 21) (fun i => i == 1) [(0, true), (1, true), (2, true), (4, true), (5, true), (6, true), (7, true), (3, false), (8, false), (9, true), (10, false)] (by kernel_rfl) fun K => ?_ | refine t_draw (by kernel_rfl) fun K => ?_); (try (first | refine t_hideE fun KL => ?_ | refine t_hideD fun KL => ?_)); simp only [go_sem, geff, kp40, hje, g4, Int.toNat_natCast, con42_f, con43_f, con60_f, con72_f, con73_f, con74_f, con75_f])
                 | ((with_reducible refine kp_skip ?_ ?_); rfl) | simp only [thenQ, blockQ, scopeQ, Nat.reduceEqDiff, reduceIte] | (with_reducible first | refine And.intro ?_ ?_ | intro vr))
                all_goals try (first | (with_reducible assumption) | (intros; (try simp only [Bool.and_eq_true, Bool.or_eq_true, Bool.or_eq_false_iff, Bool.not_eq_true', Bool.not_eq_false', decide_eq_true_eq, decide_eq_false_iff_not, beq_iff_eq, beq_eq_false_iff_ne, bne_iff_ne, bne_eq_false_iff_eq, ne_eq, inI64, List.length_append] at *) <;> omega))
                all_goals ((first | refine end_retE ?_ | refine end_normE ?_); simp only [fin, go_sem])
                rw [xsT_all]
                exact app_of (by first | exact slK_sl | rfl) slK_sl hR.symm
            · have qa' : eqS op ⟨#[97, 112, 112, 101, 110, 100]⟩ = false := qa
              have qp' : eqS op ⟨#[112, 97, 99, 107]⟩ = true := by rw [qa, Bool.false_or] at q2; exact q2
              repeat' (first
               | (with_reducible first | refine t_seq fun K => ?_ | refine t_block ?_ | refine t_scope ?_ | refine t_label ?_ | refine t_skip ?_ | refine t_exit ?_ | refine t_ret ?_ | refine t_k ?_ | refine t_gF ?_ | exact kp_nil | exact Kp.refl _ | exact kp_to | refine kp_cons ?_ | refine kp_arr ?_ | refine kp_app ?_ | refine t_p ?_ | refine t_br (fun hc => ?_) fun hc => ?_)
               | ((with_reducible first | refine t_kE (t_openE ?_) | refine t_kD (t_openD ?_) | refine t_kE ?_ | refine t_kD ?_ | refine t_gS ?_ | refine t_kL ?_ | refine t_kLF ?_ ?_ | refine t_region fun K => ?_ | refine t_cond fun A B => ?_ | refine t_drawE (id := 11) (fun _ => true) [(0, true), (1, true), (2, true), (3, true), (5, true), (6, true), (7, true), (8, true), (4, false), (9, false), (10, true), (11, true)] (by kernel_rfl) fun K => ?_ | refine t_drawE (id := 21) (fun i => i == 1) [(0, true), (1, true), (2, true), (4, true), (5, true), (6, true), (7, true), (3, false), (8, false), (9, true), (10, false)] (by kernel_rfl) fun K => ?_ | refine t_draw (by kernel_rfl) fun K => ?_); (try (first | refine t_hideE fun KL => ?_ | refine t_hideD fun KL => ?_)); simp only [go_sem, geff, kp40, qa', qp', q1', hie, g3, hr, hD, arrs_length, Int.toNat_natCast, con42_f, con43_f, con60_f, con72_f, con73_f, con74_f, con75_f, con42_c, con43_c, slS_sl, slK_sl, ilsOf_sl, elT_all, dmT_all, sbV_def, dV_def, List.getD_cons_zero])
               | ((with_reducible refine kp_skip ?_ ?_); rfl) | simp only [thenQ, blockQ, scopeQ, Nat.reduceEqDiff, reduceIte] | (with_reducible first | refine And.intro ?_ ?_ | intro vr))
              all_goals try (first | (with_reducible assumption) | (intros; (try simp only [Bool.and_eq_true, Bool.or_eq_true, Bool.or_eq_false_iff, Bool.not_eq_true', Bool.not_eq_false', decide_eq_true_eq, decide_eq_false_iff_not, beq_iff_eq, beq_eq_false_iff_ne, bne_iff_ne, bne_eq_false_iff_eq, ne_eq, inI64, List.length_append] at *) <;> omega))
              refine t_loopF (ι := { i : Gat // i.i ≤ cs.length }) (fun i => [(112, .lit (.int .i64 i.1.i))]) (fun i => [.box 33 [.lit (.string ByteArray.empty), .sl true 1 [], .sl true 1 []], .box 92 [.lit (.string s), .lit (.bool b), .sl false 1 (ints .i64 rk), fnV o, fnV p], .arr 9 1 (strs (cs.map (·.e))) v false, .arr 23 1 (ils (cs.map (·.d))) u true, .box 33 [.lit (.string el), .sl false 1 (ints .i64 d), .arr 5 i.1.v], .arr 3 1 (ints .i64 (xsT cs i.1.i)) i.1.v false]) (fun i => cs.length - i.1.i) ⟨⟨0, 0⟩, by simp⟩ ?_ ?_
              · refine (le_nilB 4 2 3 1 (cs := [.lit (.string el), .sl false 1 (ints .i64 d), .sl true 1 []]) rfl (by simp) nil_sl).trans ?_
                simp only [updL_nil, updL_cons, delF_top, delF_upd, Nat.reduceEqDiff, reduceIte]
                simp only [xsT_zero, ints_nil]
                refine Le.frameS (by first | rfl | (simp only [go_sem]; try rfl)) ?_
                repeat' (first | exact leF_top _ | exact (fun _ => LeR.refl _) | (with_reducible refine leF_sl ?_ ?_) | (refine leF_upd ?_ ?_))
                all_goals (first | exact LeR.top _ | exact LeR.refl _ | (refine LeR.of_eq ?_; (try simp only [go_sem]); try rfl) | ((try simp only [go_sem]); try rfl))
              rintro ⟨⟨j, w⟩, hj⟩ K1
              simp only at hj
              rcases Nat.lt_or_ge j cs.length with hc2 | hc2
              · have g4 : decide ((j : Int) < (cs.length : Int)) = true := decide_eq_true (by omega)
                have hb := xsT_le cs j
                have hb2 := xsT_le cs (j + 1)
                rw [xsT_succ hc2, List.length_append] at hb2
                repeat' (first
                 | (with_reducible first | refine t_seq fun K => ?_ | refine t_block ?_ | refine t_scope ?_ | refine t_label ?_ | refine t_skip ?_ | refine t_exit ?_ | refine t_ret ?_ | refine t_k ?_ | refine t_gF ?_ | exact kp_nil | exact Kp.refl _ | exact kp_to | refine kp_cons ?_ | refine kp_arr ?_ | refine kp_app ?_ | refine t_p ?_ | refine t_br (fun hc => ?_) fun hc => ?_)
                 | ((with_reducible first | refine t_kE (t_openE ?_) | refine t_kD (t_openD ?_) | refine t_kE ?_ | refine t_kD ?_ | refine t_gS ?_ | refine t_kL ?_ | refine t_kLF ?_ ?_ | refine t_region fun K => ?_ | refine t_cond fun A B => ?_ | refine t_drawE (id := 11) (fun _ => true) [(0, true), (1, true), (2, true), (3, true), (5, true), (6, true), (7, true), (8, true), (4, false), (9, false), (10, true), (11, true)] (by kernel_rfl) fun K => ?_ | refine t_drawE (id := 21) (fun i => i == 1) [(0, true), (1, true), (2, true), (4, true), (5, true), (6, true), (7, true), (3, false), (8, false), (9, true), (10, false)] (by kernel_rfl) fun K => ?_ | refine t_draw (by kernel_rfl) fun K => ?_); (try (first | refine t_hideE fun KL => ?_ | refine t_hideD fun KL => ?_)); simp only [go_sem, geff, kp40, g4, Int.toNat_natCast, con42_f, con43_f, con60_f, con72_f, con73_f, con74_f, con75_f, arrs_length, arrV_def'])
                 | ((with_reducible refine kp_skip ?_ ?_); rfl) | simp only [thenQ, blockQ, scopeQ, Nat.reduceEqDiff, reduceIte] | (with_reducible first | refine And.intro ?_ ?_ | intro vr))
                all_goals try (first | (with_reducible assumption) | (intros; (try simp only [Bool.and_eq_true, Bool.or_eq_true, Bool.or_eq_false_iff, Bool.not_eq_true', Bool.not_eq_false', decide_eq_true_eq, decide_eq_false_iff_not, beq_iff_eq, beq_eq_false_iff_ne, bne_iff_ne, bne_eq_false_iff_eq, ne_eq, inI64, List.length_append] at *) <;> omega))
                simp only [ints_append, ← xsT_succ hc2]
                refine ⟨⟨⟨j + 1, w + 1⟩, by simp only; omega⟩, by first | (simp only; omega) | omega, ?_⟩
                simp only [updL_nil, updL_cons, delF_top, delF_upd, Nat.reduceEqDiff, reduceIte]
                refine le_backD (by first | rfl | (simp only [go_sem]; try rfl)) (by first | exact Nat.zero_le _ | simp) (by first | rfl | simp [lowO, low_lit, low_sl, low_ref, low_arr, low_fnV]) ?_ ?_
                · repeat' (first | exact low_top | (refine low_upd rfl ?_))
                repeat' (first | exact leF_top _ | exact (fun _ => LeR.refl _) | (with_reducible refine leF_sl ?_ ?_) | (refine leF_upd ?_ ?_))
                all_goals (first | exact LeR.top _ | exact LeR.refl _ | (refine LeR.of_eq ?_; (try simp only [go_sem]); try rfl) | ((try simp only [go_sem]); try rfl))
              · have hje : j = cs.length := by omega
                have g4 : decide ((cs.length : Int) < (cs.length : Int)) = false := decide_eq_false (by omega)
                repeat' (first
                 | (with_reducible first | refine t_seq fun K => ?_ | refine t_block ?_ | refine t_scope ?_ | refine t_label ?_ | refine t_skip ?_ | refine t_exit ?_ | refine t_ret ?_ | refine t_k ?_ | refine t_gF ?_ | exact kp_nil | exact Kp.refl _ | exact kp_to | refine kp_cons ?_ | refine kp_arr ?_ | refine kp_app ?_ | refine t_p ?_ | refine t_br (fun hc => ?_) fun hc => ?_)
                 | ((with_reducible first | refine t_kE (t_openE ?_) | refine t_kD (t_openD ?_) | refine t_kE ?_ | refine t_kD ?_ | refine t_gS ?_ | refine t_kL ?_ | refine t_kLF ?_ ?_ | refine t_region fun K => ?_ | refine t_cond fun A B => ?_ | refine t_drawE (id := 11) (fun _ => true) [(0, true), (1, true), (2, true), (3, true), (5, true), (6, true), (7, true), (8, true), (4, false), (9, false), (10, true), (11, true)] (by kernel_rfl) fun K => ?_ | refine t_drawE (id := 21) (fun i => i == 1) [(0, true), (1, true), (2, true), (4, true), (5, true), (6, true), (7, true), (3, false), (8, false), (9, true), (10, false)] (by kernel_rfl) fun K => ?_ | refine t_draw (by kernel_rfl) fun K => ?_); (try (first | refine t_hideE fun KL => ?_ | refine t_hideD fun KL => ?_)); simp only [go_sem, geff, kp40, hje, g4, Int.toNat_natCast, con42_f, con43_f, con60_f, con72_f, con73_f, con74_f, con75_f])
                 | ((with_reducible refine kp_skip ?_ ?_); rfl) | simp only [thenQ, blockQ, scopeQ, Nat.reduceEqDiff, reduceIte] | (with_reducible first | refine And.intro ?_ ?_ | intro vr))
                all_goals try (first | (with_reducible assumption) | (intros; (try simp only [Bool.and_eq_true, Bool.or_eq_true, Bool.or_eq_false_iff, Bool.not_eq_true', Bool.not_eq_false', decide_eq_true_eq, decide_eq_false_iff_not, beq_iff_eq, beq_eq_false_iff_ne, bne_iff_ne, bne_eq_false_iff_eq, ne_eq, inI64, List.length_append] at *) <;> omega))
                all_goals ((first | refine end_retE ?_ | refine end_normE ?_); simp only [fin, go_sem])
                rw [xsT_all]
                exact app_of (by first | exact slK_sl | rfl) slK_sl hR.symm
          | pick q1 q2 q3 q4 hc2 hc3 hc1 hc0 =>
            have q1' : eqS op ⟨#[105, 111, 116, 97]⟩ = false := q1
            have q2' : eqS op ⟨#[97, 112, 112, 101, 110, 100]⟩ = false := q2
            have q3' : eqS op ⟨#[112, 97, 99, 107]⟩ = false := q3
            unfold dataS at hR
            rw [q1, if_neg (by simp), q2, q3, if_neg (by simp), if_pos q4] at hR
            generalize hch : checkedS op cs = ch at hR
            rcases Bool.eq_false_or_eq_true (eqS op n_index) with qa | qa
            · have qa' : eqS op ⟨#[105, 110, 100, 101, 120]⟩ = true := qa
              repeat' (first
               | (with_reducible first | refine t_seq fun K => ?_ | refine t_block ?_ | refine t_scope ?_ | refine t_label ?_ | refine t_skip ?_ | refine t_exit ?_ | refine t_ret ?_ | refine t_k ?_ | refine t_gF ?_ | exact kp_nil | exact Kp.refl _ | exact kp_to | refine kp_cons ?_ | refine kp_arr ?_ | refine kp_app ?_ | refine t_p ?_ | refine t_br (fun hc => ?_) fun hc => ?_)
               | ((with_reducible first | refine t_kE (t_openE ?_) | refine t_kD (t_openD ?_) | refine t_kE ?_ | refine t_kD ?_ | refine t_gS ?_ | refine t_kL ?_ | refine t_kLF ?_ ?_ | refine t_region fun K => ?_ | refine t_cond fun A B => ?_ | refine t_drawE (id := 11) (fun _ => true) [(0, true), (1, true), (2, true), (3, true), (5, true), (6, true), (7, true), (8, true), (4, false), (9, false), (10, true), (11, true)] (by kernel_rfl) fun K => ?_ | refine t_drawE (id := 21) (fun i => i == 1) [(0, true), (1, true), (2, true), (4, true), (5, true), (6, true), (7, true), (3, false), (8, false), (9, true), (10, false)] (by kernel_rfl) fun K => ?_ | refine t_draw (by kernel_rfl) fun K => ?_); (try (first | refine t_hideE fun KL => ?_ | refine t_hideD fun KL => ?_)); simp only [go_sem, geff, kp40, qa', q1', q2', q3', hch, con73_c, arrsOf_sl, ibV_def, hie, g3, hr, hD, arrs_length, Int.toNat_natCast, con42_f, con43_f, con60_f, con72_f, con73_f, con74_f, con75_f, con42_c, con43_c, slS_sl, slK_sl, ilsOf_sl, elT_all, dmT_all, sbV_def, dV_def, List.getD_cons_zero])
               | ((with_reducible refine kp_skip ?_ ?_); rfl) | simp only [thenQ, blockQ, scopeQ, Nat.reduceEqDiff, reduceIte] | (with_reducible first | refine And.intro ?_ ?_ | intro vr))
              all_goals try (first | exact (hc3 (by assumption)).1 | exact (hc3 (by assumption)).2)
              all_goals try (first | (with_reducible assumption) | (intros; (try simp only [Bool.and_eq_true, Bool.or_eq_true, Bool.or_eq_false_iff, Bool.not_eq_true', Bool.not_eq_false', decide_eq_true_eq, decide_eq_false_iff_not, beq_iff_eq, beq_eq_false_iff_ne, bne_iff_ne, bne_eq_false_iff_eq, ne_eq, inI64, List.length_append] at *) <;> omega))
              all_goals ((first | refine end_retE ?_ | refine end_normE ?_); simp only [fin, go_sem])
              exact app_of (by first | exact slK_sl | rfl) slK_sl hR.symm
            · have qa' : eqS op ⟨#[105, 110, 100, 101, 120]⟩ = false := qa
              have qp' : eqS op ⟨#[117, 112, 100, 97, 116, 101]⟩ = true := by unfold selS at q4; rw [qa, Bool.false_or] at q4; exact q4
              repeat' (first
               | (with_reducible first | refine t_seq fun K => ?_ | refine t_block ?_ | refine t_scope ?_ | refine t_label ?_ | refine t_skip ?_ | refine t_exit ?_ | refine t_ret ?_ | refine t_k ?_ | refine t_gF ?_ | exact kp_nil | exact Kp.refl _ | exact kp_to | refine kp_cons ?_ | refine kp_arr ?_ | refine kp_app ?_ | refine t_p ?_ | refine t_br (fun hc => ?_) fun hc => ?_)
               | ((with_reducible first | refine t_kE (t_openE ?_) | refine t_kD (t_openD ?_) | refine t_kE ?_ | refine t_kD ?_ | refine t_gS ?_ | refine t_kL ?_ | refine t_kLF ?_ ?_ | refine t_region fun K => ?_ | refine t_cond fun A B => ?_ | refine t_drawE (id := 11) (fun _ => true) [(0, true), (1, true), (2, true), (3, true), (5, true), (6, true), (7, true), (8, true), (4, false), (9, false), (10, true), (11, true)] (by kernel_rfl) fun K => ?_ | refine t_drawE (id := 21) (fun i => i == 1) [(0, true), (1, true), (2, true), (4, true), (5, true), (6, true), (7, true), (3, false), (8, false), (9, true), (10, false)] (by kernel_rfl) fun K => ?_ | refine t_draw (by kernel_rfl) fun K => ?_); (try (first | refine t_hideE fun KL => ?_ | refine t_hideD fun KL => ?_)); simp only [go_sem, geff, kp40, qa', qp', q1', q2', q3', hch, con73_c, arrsOf_sl, ibV_def, hie, g3, hr, hD, arrs_length, Int.toNat_natCast, con42_f, con43_f, con60_f, con72_f, con73_f, con74_f, con75_f, con42_c, con43_c, slS_sl, slK_sl, ilsOf_sl, elT_all, dmT_all, sbV_def, dV_def, List.getD_cons_zero])
               | ((with_reducible refine kp_skip ?_ ?_); rfl) | simp only [thenQ, blockQ, scopeQ, Nat.reduceEqDiff, reduceIte] | (with_reducible first | refine And.intro ?_ ?_ | intro vr))
              all_goals try (first | exact (hc3 (by assumption)).1 | exact (hc3 (by assumption)).2)
              all_goals try (first | (with_reducible assumption) | (intros; (try simp only [Bool.and_eq_true, Bool.or_eq_true, Bool.or_eq_false_iff, Bool.not_eq_true', Bool.not_eq_false', decide_eq_true_eq, decide_eq_false_iff_not, beq_iff_eq, beq_eq_false_iff_ne, bne_iff_ne, bne_eq_false_iff_eq, ne_eq, inI64, List.length_append] at *) <;> omega))
              all_goals ((first | refine end_retE ?_ | refine end_normE ?_); simp only [fin, go_sem])
              exact app_of (by first | exact slK_sl | rfl) slK_sl hR.symm
          | move q1 q2 q3 q4 hc1 hgt =>
            have q1' : eqS op ⟨#[105, 111, 116, 97]⟩ = false := q1
            have q2' : eqS op ⟨#[97, 112, 112, 101, 110, 100]⟩ = false := q2
            have q3' : eqS op ⟨#[112, 97, 99, 107]⟩ = false := q3
            have q5' : eqS op ⟨#[105, 110, 100, 101, 120]⟩ = false := by unfold selS at q4; exact (Bool.or_eq_false_iff.1 q4).1
            have q6' : eqS op ⟨#[117, 112, 100, 97, 116, 101]⟩ = false := by unfold selS at q4; exact (Bool.or_eq_false_iff.1 q4).2
            unfold dataS at hR
            rw [q1, if_neg (by simp), q2, q3, if_neg (by simp), q4, if_neg (by simp)] at hR
            obtain ⟨g, hg, hgt⟩ := hgt
            have hgt' : gatP ⟨s, b, rk, some g1, some g⟩ (sizeK ns num) d (cs.getD 0 nilA) := ⟨g, rfl, hgt⟩
            simp only at hg
            simp only [hg, Option.getD_some] at hR
            repeat' (first
             | (with_reducible first | refine t_seq fun K => ?_ | refine t_block ?_ | refine t_scope ?_ | refine t_label ?_ | refine t_skip ?_ | refine t_exit ?_ | refine t_ret ?_ | refine t_k ?_ | refine t_gF ?_ | exact kp_nil | exact Kp.refl _ | exact kp_to | refine kp_cons ?_ | refine kp_arr ?_ | refine kp_app ?_ | refine t_p ?_ | refine t_br (fun hc => ?_) fun hc => ?_)
             | ((with_reducible first | refine t_kE (t_openE ?_) | refine t_kD (t_openD ?_) | refine t_kE ?_ | refine t_kD ?_ | refine t_gS ?_ | refine t_kL ?_ | refine t_kLF ?_ ?_ | refine t_region fun K => ?_ | refine t_cond fun A B => ?_ | refine t_drawE (id := 11) (fun _ => true) [(0, true), (1, true), (2, true), (3, true), (5, true), (6, true), (7, true), (8, true), (4, false), (9, false), (10, true), (11, true)] (by kernel_rfl) fun K => ?_ | refine t_drawE (id := 21) (fun i => i == 1) [(0, true), (1, true), (2, true), (4, true), (5, true), (6, true), (7, true), (3, false), (8, false), (9, true), (10, false)] (by kernel_rfl) fun K => ?_ | refine t_draw (by kernel_rfl) fun K => ?_); (try (first | refine t_hideE fun KL => ?_ | refine t_hideD fun KL => ?_)); simp only [go_sem, geff, kp40, ho1, hg, fnV_some, q1', q2', q3', q5', q6', con74_d, con75_c, sizeK_def, arrV_def', arrOf_agg, hie, g3, hr, hD, arrs_length, Int.toNat_natCast, con42_f, con43_f, con60_f, con72_f, con73_f, con74_f, con75_f, con42_c, con43_c, slS_sl, slK_sl, ilsOf_sl, elT_all, dmT_all, sbV_def, dV_def, List.getD_cons_zero])
             | ((with_reducible refine kp_skip ?_ ?_); rfl) | simp only [thenQ, blockQ, scopeQ, Nat.reduceEqDiff, reduceIte] | (with_reducible first | refine And.intro ?_ ?_ | intro vr))
            all_goals try exact hgt'
            all_goals try (first | (with_reducible assumption) | (intros; (try simp only [Bool.and_eq_true, Bool.or_eq_true, Bool.or_eq_false_iff, Bool.not_eq_true', Bool.not_eq_false', decide_eq_true_eq, decide_eq_false_iff_not, beq_iff_eq, beq_eq_false_iff_ne, bne_iff_ne, bne_eq_false_iff_eq, ne_eq, inI64, List.length_append] at *) <;> omega))
            all_goals ((first | refine end_retE ?_ | refine end_normE ?_); simp only [fin, go_sem])
            exact app_of (by first | exact slK_sl | rfl) slK_sl hR.symm
        · rw [if_pos hde] at hR
          have hde' : (de != 0) = true := by simpa using hde
          repeat' (first
           | (with_reducible first | refine t_seq fun K => ?_ | refine t_block ?_ | refine t_scope ?_ | refine t_label ?_ | refine t_skip ?_ | refine t_exit ?_ | refine t_ret ?_ | refine t_k ?_ | refine t_gF ?_ | exact kp_nil | exact Kp.refl _ | exact kp_to | refine kp_cons ?_ | refine kp_arr ?_ | refine kp_app ?_ | refine t_p ?_ | refine t_br (fun hc => ?_) fun hc => ?_)
           | ((with_reducible first | refine t_kE (t_openE ?_) | refine t_kD (t_openD ?_) | refine t_kE ?_ | refine t_kD ?_ | refine t_gS ?_ | refine t_kL ?_ | refine t_kLF ?_ ?_ | refine t_region fun K => ?_ | refine t_cond fun A B => ?_ | refine t_drawE (id := 11) (fun _ => true) [(0, true), (1, true), (2, true), (3, true), (5, true), (6, true), (7, true), (8, true), (4, false), (9, false), (10, true), (11, true)] (by kernel_rfl) fun K => ?_ | refine t_drawE (id := 21) (fun i => i == 1) [(0, true), (1, true), (2, true), (4, true), (5, true), (6, true), (7, true), (3, false), (8, false), (9, true), (10, false)] (by kernel_rfl) fun K => ?_ | refine t_draw (by kernel_rfl) fun K => ?_); (try (first | refine t_hideE fun KL => ?_ | refine t_hideD fun KL => ?_)); simp only [go_sem, geff, kp40, hie, g3, hr, hD, hde', Int.toNat_natCast, con42_f, con43_f, con60_f, con72_f, con73_f, con74_f, con75_f, con42_c, con43_c, slS_sl, slK_sl, ilsOf_sl, elT_all, dmT_all, sbV_def, dV_def])
           | ((with_reducible refine kp_skip ?_ ?_); rfl) | simp only [thenQ, blockQ, scopeQ, Nat.reduceEqDiff, reduceIte] | (with_reducible first | refine And.intro ?_ ?_ | intro vr))
          all_goals try (first | (with_reducible assumption) | (intros; (try simp only [Bool.and_eq_true, Bool.or_eq_true, Bool.or_eq_false_iff, Bool.not_eq_true', Bool.not_eq_false', decide_eq_true_eq, decide_eq_false_iff_not, beq_iff_eq, beq_eq_false_iff_ne, bne_iff_ne, bne_eq_false_iff_eq, ne_eq, inI64, List.length_append] at *) <;> omega))
          all_goals ((first | refine end_retE ?_ | refine end_normE ?_); simp only [fin, go_sem])
          exact app_of rfl rfl hR.symm
  · rw [if_pos h0] at hR
    obtain ⟨s, b, rk, o, p⟩ := e
    have h0' : (er != 0) = true := by simpa using h0
    refine pc_ofR K1_ok mixed (kp40) (rs := [.cell 8 33, .tmp 9, .tmp 10]) Try.func40 rfl (by kernel_rfl) (by kernel_rfl) (Nat.le_of_ble_eq_true rfl) ?_
    simp only [initF_cons, initF_nil, Nat.reduceAdd]
    refine t_name fun KF => ?_
    unfold K1
    repeat' (first
     | (with_reducible first | refine t_seq fun K => ?_ | refine t_block ?_ | refine t_scope ?_ | refine t_label ?_ | refine t_skip ?_ | refine t_exit ?_ | refine t_ret ?_ | refine t_k ?_ | refine t_gF ?_ | exact kp_nil | exact Kp.refl _ | exact kp_to | refine kp_cons ?_ | refine kp_arr ?_ | refine kp_app ?_ | refine t_p ?_ | refine t_br (fun hc => ?_) fun hc => ?_)
     | ((with_reducible first | refine t_kE (t_openE ?_) | refine t_kD (t_openD ?_) | refine t_kE ?_ | refine t_kD ?_ | refine t_gS ?_ | refine t_kL ?_ | refine t_kLF ?_ ?_ | refine t_region fun K => ?_ | refine t_cond fun A B => ?_ | refine t_drawE (id := 11) (fun _ => true) [(0, true), (1, true), (2, true), (3, true), (5, true), (6, true), (7, true), (8, true), (4, false), (9, false), (10, true), (11, true)] (by kernel_rfl) fun K => ?_ | refine t_drawE (id := 21) (fun i => i == 1) [(0, true), (1, true), (2, true), (4, true), (5, true), (6, true), (7, true), (3, false), (8, false), (9, true), (10, false)] (by kernel_rfl) fun K => ?_ | refine t_draw (by kernel_rfl) fun K => ?_); (try (first | refine t_hideE fun KL => ?_ | refine t_hideD fun KL => ?_)); simp only [go_sem, geff, kp40, con42_f, con43_f, con60_f, con72_f, con73_f, con74_f, con75_f, con72_c, arrs_length, slK_sl, gV_def, hG, entV_def, h0'])
     | ((with_reducible refine kp_skip ?_ ?_); rfl) | simp only [thenQ, blockQ, scopeQ, Nat.reduceEqDiff, reduceIte] | (with_reducible first | refine And.intro ?_ ?_ | intro vr))
    all_goals try (first | (with_reducible assumption) | (intros; (try simp only [Bool.and_eq_true, Bool.or_eq_true, Bool.or_eq_false_iff, Bool.not_eq_true', Bool.not_eq_false', decide_eq_true_eq, decide_eq_false_iff_not, beq_iff_eq, beq_eq_false_iff_ne, bne_iff_ne, bne_eq_false_iff_eq, ne_eq, inI64, List.length_append] at *) <;> omega))
    all_goals ((first | refine end_retE ?_ | refine end_normE ?_); simp only [fin, go_sem])
    exact app_of rfl rfl hR.symm
noncomputable def con40 : PCon Try.prog where
  f := 40
  c := fun
    | [.lit (.string op), xns, .lit (.int .i64 num), xcs] => match slK .i64 xns, arrsOf xcs with | some ns, some cs => some (cs.length ≤ 4096 ∧ (∀ a ∈ cs, okA a), appV (applyS op ns num cs)) | _, _ => none
    | _ => none
  ok := by
    intro args p r hc hp
    split at hc
    · split at hc
      · rename_i hns hcs
        cases hc
        exact PC.weak ((fun hp : _ ∧ _ => apply_pc hp.1 hp.2) hp) ⟨LeA.refl _, slK_le hns, LeA.refl _, arrsOf_le hcs, trivial⟩
      · cases hc
    · cases hc
  fk := fk40
theorem con40_f : con40.f = 40 := rfl
theorem con40_c {op : ByteArray} {xns : AV} {num : Int} {xcs : AV} : con40.c [.lit (.string op), xns, .lit (.int .i64 num), xcs] = match slK .i64 xns, arrsOf xcs with | some ns, some cs => some (cs.length ≤ 4096 ∧ (∀ a ∈ cs, okA a), appV (applyS op ns num cs)) | _, _ => none := rfl
end Go.Proofs.Ytjlcbojpiieafaa

/- An element of a result (reference). -/
namespace Go.Proofs.Ytjlcbojpiieafaa
open Go Go.Fw
set_option maxRecDepth 20000

end Go.Proofs.Ytjlcbojpiieafaa

/- The result of index and update (reference). -/
namespace Go.Proofs.Ytjlcbojpiieafaa
open Go Go.Fw
set_option maxRecDepth 20000

end Go.Proofs.Ytjlcbojpiieafaa

/- What the primitives give is valid, and the reference's elements are those. -/
namespace Go.Proofs.Ytjlcbojpiieafaa
open Go Go.Fw

def allV (e : ByteArray) (x : List Int) : Prop := ∀ n ∈ x, vld e n = true
theorem val_allV {a : Arr} (h : ofE a = 0) : allV a.e a.x := by
  have hb := (ofE_inv h).2.2
  intro n hn
  unfold bad at hb
  rw [List.any_eq_false] at hb
  simpa using hb n hn
theorem of_ok {e : ByteArray} {d x : List Int} (ht : tyOk e = true) (hs : (sizeS d).2 = 0) (hl : (x.length : Int) = (sizeS d).1) (hv : allV e x) : ofE ⟨e, d, x⟩ = 0 := by
  unfold ofE
  rw [if_neg (by unfold tyOk at ht; simp only; rw [show (eqS e sInt || eqS e sBool) = true from ht]; simp), if_neg (by simpa using hs), if_neg (by simpa using hl), if_neg]
  simp only
  intro h
  rw [List.any_eq_true] at h
  obtain ⟨n, hn, h2⟩ := h
  rw [hv n hn] at h2
  cases h2
theorem rangeS_get {n p : Nat} (h : p < n) : (rangeS n).getD p 0 = p := by
  unfold rangeS
  rw [List.getD_eq_getElem?_getD, List.getElem?_map, List.getElem?_range h]; rfl
end Go.Proofs.Ytjlcbojpiieafaa

/- What the reference's Apply computes: the walk. -/
namespace Go.Proofs.Ytjlcbojpiieafaa
open Go Go.Fw
set_option maxRecDepth 20000

end Go.Proofs.Ytjlcbojpiieafaa

/- Equality of arrays. -/
namespace Go.Proofs.Ytjlcbojpiieafaa
open Go Go.Fw

def eqA (a b : Arr) : Bool := eqS a.e b.e && (decide (a.d = b.d) && decide (a.x = b.x))
theorem eqA_refl (a : Arr) : eqA a a = true := by unfold eqA; rw [eqS_refl, decide_eq_true rfl, decide_eq_true rfl]; rfl
noncomputable def E21 : Env := envOf (P := Try.prog) zer (fun _ => false) (fun _ => false) [con19] []
theorem E21_ok : EnvOk Try.prog E21 := envOk zer_ok
set_option maxRecDepth 20000 in
set_option maxHeartbeats 1000000 in
theorem eqa_pc {a b : Arr} (ha : okA a) : PC Try.prog 24 [arrV a, arrV b] (.lit (.bool (eqA a b))) := by
  have ha1 := ha.1
  have ha2 := ha.2
  unfold eqA
  by_cases h1 : eqS a.e b.e = true
  · by_cases h2 : a.d = b.d
    · have d2 : decide (a.d = b.d) = true := decide_eq_true h2
      rw [h1, d2]
      refine pc_of E21_ok mixed (fun _ => [0, 1, 2, 3, 4]) Try.func24 rfl (by kernel_rfl) (Nat.le_of_ble_eq_true rfl) ?_
      simp only [initF_cons, initF_nil, Nat.reduceAdd]
      refine t_name fun KF => ?_
      unfold E21
      repeat' (first
       | (with_reducible first | refine t_seq fun K => ?_ | refine t_block ?_ | refine t_scope ?_ | refine t_label ?_ | refine t_skip ?_ | refine t_exit ?_ | refine t_ret ?_ | refine t_k ?_ | refine t_gF ?_ | exact kp_nil | exact Kp.refl _ | exact kp_to | refine kp_cons ?_ | refine kp_arr ?_ | refine kp_app ?_ | refine t_p ?_ | refine t_br (fun hc => ?_) fun hc => ?_)
       | ((with_reducible first | refine t_kE ?_ | refine t_kD ?_ | refine t_gS ?_ | refine t_kL ?_ | refine t_kLF ?_ ?_ | refine t_region fun K => ?_ | refine t_cond fun A B => ?_ | refine t_draw (by kernel_rfl) fun K => ?_); simp only [go_sem, geff, con19_f, con19_c, arrV_def, slK_sl, h1, d2])
       | ((with_reducible refine kp_skip ?_ ?_); rfl) | simp only [thenQ, blockQ, scopeQ, Nat.reduceEqDiff, reduceIte] | (with_reducible first | refine And.intro ?_ ?_ | intro vr))
      all_goals try (intros; (try simp only [Bool.and_eq_true, Bool.or_eq_true, Bool.not_eq_true', decide_eq_true_eq, decide_eq_false_iff_not, beq_iff_eq, bne_iff_ne, ne_eq, inI64, List.length_append] at *) <;> omega)
      refine end_ret rfl ?_
      simp only [fin, go_sem]
      exact LeA.refl _
    · have d2 : decide (a.d = b.d) = false := decide_eq_false h2
      rw [h1, d2]
      refine pc_of E21_ok mixed (fun _ => [0, 1, 2, 3, 4]) Try.func24 rfl (by kernel_rfl) (Nat.le_of_ble_eq_true rfl) ?_
      simp only [initF_cons, initF_nil, Nat.reduceAdd]
      refine t_name fun KF => ?_
      unfold E21
      repeat' (first
       | (with_reducible first | refine t_seq fun K => ?_ | refine t_block ?_ | refine t_scope ?_ | refine t_label ?_ | refine t_skip ?_ | refine t_exit ?_ | refine t_ret ?_ | refine t_k ?_ | refine t_gF ?_ | exact kp_nil | exact Kp.refl _ | exact kp_to | refine kp_cons ?_ | refine kp_arr ?_ | refine kp_app ?_ | refine t_p ?_ | refine t_br (fun hc => ?_) fun hc => ?_)
       | ((with_reducible first | refine t_kE ?_ | refine t_kD ?_ | refine t_gS ?_ | refine t_kL ?_ | refine t_kLF ?_ ?_ | refine t_region fun K => ?_ | refine t_cond fun A B => ?_ | refine t_draw (by kernel_rfl) fun K => ?_); simp only [go_sem, geff, con19_f, con19_c, arrV_def, slK_sl, h1, d2])
       | ((with_reducible refine kp_skip ?_ ?_); rfl) | simp only [thenQ, blockQ, scopeQ, Nat.reduceEqDiff, reduceIte] | (with_reducible first | refine And.intro ?_ ?_ | intro vr))
      all_goals try (intros; (try simp only [Bool.and_eq_true, Bool.or_eq_true, Bool.not_eq_true', decide_eq_true_eq, decide_eq_false_iff_not, beq_iff_eq, bne_iff_ne, ne_eq, inI64, List.length_append] at *) <;> omega)
      refine end_ret rfl ?_
      simp only [fin, go_sem]
      exact LeA.refl _
  · have h1' : eqS a.e b.e = false := by simpa using h1
    rw [h1']
    refine pc_of E21_ok mixed (fun _ => [0, 1, 2, 3, 4]) Try.func24 rfl (by kernel_rfl) (Nat.le_of_ble_eq_true rfl) ?_
    simp only [initF_cons, initF_nil, Nat.reduceAdd]
    refine t_name fun KF => ?_
    unfold E21
    repeat' (first
     | (with_reducible first | refine t_seq fun K => ?_ | refine t_block ?_ | refine t_scope ?_ | refine t_label ?_ | refine t_skip ?_ | refine t_exit ?_ | refine t_ret ?_ | refine t_k ?_ | refine t_gF ?_ | exact kp_nil | exact Kp.refl _ | exact kp_to | refine kp_cons ?_ | refine kp_arr ?_ | refine kp_app ?_ | refine t_p ?_ | refine t_br (fun hc => ?_) fun hc => ?_)
     | ((with_reducible first | refine t_kE ?_ | refine t_kD ?_ | refine t_gS ?_ | refine t_kL ?_ | refine t_kLF ?_ ?_ | refine t_region fun K => ?_ | refine t_cond fun A B => ?_ | refine t_draw (by kernel_rfl) fun K => ?_); simp only [go_sem, geff, con19_f, con19_c, arrV_def, slK_sl, h1'])
     | ((with_reducible refine kp_skip ?_ ?_); rfl) | simp only [thenQ, blockQ, scopeQ, Nat.reduceEqDiff, reduceIte] | (with_reducible first | refine And.intro ?_ ?_ | intro vr))
    all_goals try (intros; (try simp only [Bool.and_eq_true, Bool.or_eq_true, Bool.not_eq_true', decide_eq_true_eq, decide_eq_false_iff_not, beq_iff_eq, bne_iff_ne, ne_eq, inI64, List.length_append] at *) <;> omega)
    refine end_ret rfl ?_
    simp only [fin, go_sem]
    exact LeA.refl _
noncomputable def con24 : PCon Try.prog where
  f := 24
  c := fun
    | [xa, xb] => match arrOf xa, arrOf xb with | some a, some b => some (okA a, .lit (.bool (eqA a b))) | _, _ => none
    | _ => none
  ok := by
    intro args p r hc hp
    split at hc
    · split at hc
      · rename_i ha hb
        cases hc
        exact PC.weak (eqa_pc hp) ⟨arrOf_le ha, arrOf_le hb, trivial⟩
      · cases hc
    · cases hc
  fk := fk24
theorem con24_f : con24.f = 24 := rfl
theorem con24_c {xa : AV} {xb : AV} : con24.c [xa, xb] = match arrOf xa, arrOf xb with | some a, some b => some (okA a, .lit (.bool (eqA a b))) | _, _ => none := rfl
end Go.Proofs.Ytjlcbojpiieafaa
