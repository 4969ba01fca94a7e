/- The entries of structure: dimensions, places. -/
import Derived.Test.YtjlcbojpiieafaaSA
import Derived.Test.YtjlcbojpiieafaaFwB
import Derived.Ground.Names2Prog
import Derived.Shelf.Slices.Delete
import Derived.Test.YtjlcbojpiieafaaProg

set_option linter.all false

namespace Go.Proofs.Ytjlcbojpiieafaa
open Go Go.Fw

def jA : AV := arrV nilA
def jI : AV := .sl false 1 []
def jk : TypeId → AV := lookZ [(3, .lit (.int .i64 0)), (9, .lit (.string ByteArray.empty)), (23, jI), (33, jA)]
theorem jk3 : jk 3 = .lit (.int .i64 0) := rfl
theorem jk9 : jk 9 = .lit (.string ByteArray.empty) := rfl
theorem jk23 : jk 23 = jI := rfl
theorem jk33 : jk 33 = jA := rfl
theorem arrs_getJ (l : List Arr) (i : Nat) : (arrs l).getD i jA = arrV (l.getD i nilA) := by
  simp only [arrs, jA, List.getD_eq_getElem?_getD, List.getElem?_map]; cases l[i]? <;> rfl
theorem ils_getJ (l : List (List Int)) (i : Nat) : (ils l).getD i jI = .sl false 1 (ints .i64 (l.getD i [])) := by
  simp only [ils, jI, List.getD_eq_getElem?_getD, List.getElem?_map]; cases l[i]? <;> rfl
attribute [go_sem] jk3 jk9 jk23 jk33 arrs_getJ ils_getJ
/-- Dimensions with an error. -/
def dV (r : List Int × Int) : AV := .tup [.sl false 1 (ints .i64 r.1), .lit (.int .i64 r.2)]
theorem dV_def {r : List Int × Int} : dV r = .tup [.sl false 1 (ints .i64 r.1), .lit (.int .i64 r.2)] := rfl
theorem dv_of {x : AV} {n : Int} {l : List Int} {r : List Int × Int} (h : slK .i64 x = some l) (e : r = (l, n)) : LeA (.tup [x, .lit (.int .i64 n)]) (dV r) := by
  subst e; exact LeA.tup ⟨slK_le h, LeA.refl _, trivial⟩
def partS (k n : Int) : Int := if k < 0 ∨ k > n then 2 else 0
def w64 (n : Int) : Int := IntKind.i64.wrap n
/-- The dimensions of a result, by the entry's function. -/
def dimsS (g : Nat) (k : Int) (ds : List (List Int)) : List Int × Int :=
  let a := (ds.getD 0 []).getD 0 0
  let b := (ds.getD 0 []).getD 1 0
  match g with
  | 103 => ([k], partS k (maxI k 0))
  | 105 => ([k], partS k a)
  | 108 => ([w64 (a - k)], partS k a)
  | 110 => (ds.getD 0 [], 0)
  | 112 => ([a + (ds.getD 1 []).getD 0 0], 0)
  | 113 => ([b, a], 0)
  | 115 => if a ≠ b then ([], 14) else ([a], 0)
  | 117 => ([w64 (w64 (a - k) + 1), k], partS k a)
  | 119 => if k < 1 ∨ k > 64 then ([], 2) else if a.tmod k ≠ 0 then ([], 14) else ([a.tdiv k, k], 0)
  | 121 => ([], 0)
  | 101 => ([(ds.length : Int)], 0)
  | _ => ([], 0)
/-- What an entry's function of dimensions asks of them. -/
def dimsP (g : Nat) (ds : List (List Int)) : Prop :=
  match g with
  | 105 | 108 | 117 | 119 => 0 < ds.length ∧ 0 < (ds.getD 0 []).length
  | 110 => 0 < ds.length
  | 112 => 1 < ds.length ∧ 0 < (ds.getD 0 []).length ∧ 0 < (ds.getD 1 []).length
  | 113 | 115 => 0 < ds.length ∧ 1 < (ds.getD 0 []).length
  | _ => True
def ilBd (ds : List (List Int)) : Prop := ∀ d ∈ ds, ∀ x ∈ d, 0 ≤ x ∧ x ≤ 4096
theorem ilBd_get {ds : List (List Int)} (h : ilBd ds) (i j : Nat) : 0 ≤ (ds.getD i []).getD j 0 ∧ (ds.getD i []).getD j 0 ≤ 4096 := by
  by_cases h1 : i < ds.length
  · by_cases h2 : j < (ds.getD i []).length
    · have e1 : ds.getD i [] ∈ ds := by rw [List.getD_eq_getElem?_getD, List.getElem?_eq_getElem h1]; exact List.getElem_mem h1
      have e2 : (ds.getD i []).getD j 0 ∈ ds.getD i [] := by
        generalize ds.getD i [] = d at h2
        rw [List.getD_eq_getElem?_getD, List.getElem?_eq_getElem h2]; exact List.getElem_mem h2
      exact h _ e1 _ e2
    · have : (ds.getD i []).getD j 0 = 0 := by
        generalize ds.getD i [] = d at h2
        rw [List.getD_eq_getElem?_getD, List.getElem?_eq_none (by omega)]; rfl
      omega
  · have : ds.getD i [] = [] := by rw [List.getD_eq_getElem?_getD, List.getElem?_eq_none (by omega)]; rfl
    rw [this]; simp
noncomputable def F1 : Env := envJ (P := Try.prog) jk zer (fun _ => false) (fun _ => false) [] []
theorem F1_ok : EnvOk Try.prog F1 := envJOk zer_ok
theorem part_pc {k n : Int} : PC Try.prog 106 [.lit (.int .i64 k), .lit (.int .i64 n)] (.lit (.int .i64 (partS k n))) := by
  refine pc_ofR F1_ok mixed (fun _ => [0, 1, 4, 11]) (rs := [.tmp 4]) Try.func106 rfl (by kernel_rfl) (by kernel_rfl) (Nat.le_of_ble_eq_true rfl) ?_
  simp only [initF_cons, initF_nil, Nat.reduceAdd]
  refine t_name fun KF => ?_
  unfold F1
  repeat' (first
   | (with_reducible first | refine t_seq fun K => ?_ | refine t_block ?_ | refine t_scope ?_ | refine t_label ?_ | refine t_skip ?_ | refine t_exit ?_ | refine t_ret ?_ | refine t_k ?_ | refine t_gF ?_ | exact kp_nil | exact Kp.refl _ | exact kp_to | refine kp_cons ?_ | refine kp_arr ?_ | refine kp_app ?_ | refine t_p ?_ | refine t_br (fun hc => ?_) fun hc => ?_)
   | ((with_reducible first | refine t_kE ?_ | refine t_kD ?_ | refine t_gS ?_ | refine t_kL ?_ | refine t_kLF ?_ ?_ | refine t_region fun K => ?_ | refine t_cond fun A B => ?_ | refine t_draw (by kernel_rfl) fun K => ?_); simp only [go_sem, geff])
   | ((with_reducible refine kp_skip ?_ ?_); rfl) | simp only [thenQ, blockQ, scopeQ, Nat.reduceEqDiff, reduceIte] | (with_reducible first | refine And.intro ?_ ?_ | intro vr))
  all_goals try (first | (with_reducible assumption) | (intros; (try simp only [Bool.and_eq_true, Bool.or_eq_true, Bool.or_eq_false_iff, Bool.not_eq_true', Bool.not_eq_false', decide_eq_true_eq, decide_eq_false_iff_not, beq_iff_eq, beq_eq_false_iff_ne, bne_iff_ne, bne_eq_false_iff_eq, ne_eq, inI64, List.length_append] at *) <;> omega))
  all_goals ((first | refine end_retE ?_ | refine end_normE ?_); simp only [fin, go_sem])
  · refine LeA.of_eq ?_
    unfold partS
    rw [if_pos (by simpa using hc)]
  · refine LeA.of_eq ?_
    unfold partS
    rw [if_neg (by simpa using hc)]
noncomputable def con106 : PCon Try.prog where
  f := 106
  c := fun
    | [.lit (.int .i64 k), .lit (.int .i64 n)] => some (True, .lit (.int .i64 (partS k n)))
    | _ => none
  ok := by
    intro args p r hc hp
    split at hc
    · cases hc; exact part_pc
    · cases hc
  fk := fk106
theorem con106_f : con106.f = 106 := rfl
theorem con106_c {k : Int} {n : Int} : con106.c [.lit (.int .i64 k), .lit (.int .i64 n)] = some (True, .lit (.int .i64 (partS k n))) := rfl
noncomputable def F2 : Env := envJ (P := Try.prog) jk zer (fun _ => false) (fun _ => false) [con106] []
theorem F2_ok : EnvOk Try.prog F2 := envJOk zer_ok
noncomputable def F3 : Env := envJ (P := Try.prog) jk zer (fun t => t == 12 || t == 13) (fun _ => false) [con106] []
theorem F3_ok : EnvOk Try.prog F3 := envJOk zer_ok
theorem tdiv_bd {a k : Int} (h : 0 ≤ a ∧ a ≤ 4096) (hk : 1 ≤ k) : 0 ≤ a.tdiv k ∧ a.tdiv k ≤ 4096 := by
  rw [Int.tdiv_eq_ediv_of_nonneg h.1]
  exact ⟨Int.ediv_nonneg h.1 (by omega), Int.le_trans (Int.ediv_le_self _ h.1) h.2⟩
set_option maxHeartbeats 2000000 in
theorem dims_pc {g : FuncId} (hg : g ∈ [103, 105, 108, 110, 112, 113, 115, 117, 119, 121, 101]) {k : Int} {ds : List (List Int)} (hl : ds.length ≤ 1000000) (hp : dimsP g ds) (hb : ilBd ds) :
    PC Try.prog g [.lit (.int .i64 k), .sl false 1 (ils ds)] (dV (dimsS g k ds)) := by
  have h00 := ilBd_get hb 0 0
  have h01 := ilBd_get hb 0 1
  have h10 := ilBd_get hb 1 0
  have w1 : ∀ n, (0 ≤ n ∧ n ≤ 10000) → IntKind.i64.wrap n = n := fun n h => wrap_i64 (by unfold inI64; omega)
  have w2 := w1 ((ds.getD 0 []).getD 0 0 + (ds.getD 1 []).getD 0 0) (by omega)
  simp only [List.mem_cons, List.not_mem_nil, or_false] at hg
  rcases hg with rfl | rfl | rfl | rfl | rfl | rfl | rfl | rfl | rfl | rfl | rfl <;> simp only [dimsP] at hp
  · skip
    refine pc_ofR F2_ok mixed (fun _ => [0, 4, 5]) (rs := [.tmp 4, .tmp 5]) Try.func103 rfl (by kernel_rfl) (by kernel_rfl) (Nat.le_of_ble_eq_true rfl) ?_
    simp only [initF_cons, initF_nil, Nat.reduceAdd]
    refine t_name fun KF => ?_
    unfold F2
    repeat' (first
     | (with_reducible first | refine t_seq fun K => ?_ | refine t_block ?_ | refine t_scope ?_ | refine t_label ?_ | refine t_skip ?_ | refine t_exit ?_ | refine t_ret ?_ | refine t_k ?_ | refine t_gF ?_ | exact kp_nil | exact Kp.refl _ | exact kp_to | refine kp_cons ?_ | refine kp_arr ?_ | refine kp_app ?_ | refine t_p ?_ | refine t_br (fun hc => ?_) fun hc => ?_)
     | ((with_reducible first | refine t_kE ?_ | refine t_kD ?_ | refine t_gS ?_ | refine t_kL ?_ | refine t_kLF ?_ ?_ | refine t_region fun K => ?_ | refine t_cond fun A B => ?_ | refine t_draw (by kernel_rfl) fun K => ?_); simp only [go_sem, geff, con106_f, con106_c, ils_length])
     | ((with_reducible refine kp_skip ?_ ?_); rfl) | simp only [thenQ, blockQ, scopeQ, Nat.reduceEqDiff, reduceIte] | (with_reducible first | refine And.intro ?_ ?_ | intro vr))
    all_goals try (first | (with_reducible assumption) | (intros; (try simp only [Bool.and_eq_true, Bool.or_eq_true, Bool.or_eq_false_iff, Bool.not_eq_true', Bool.not_eq_false', decide_eq_true_eq, decide_eq_false_iff_not, beq_iff_eq, beq_eq_false_iff_ne, bne_iff_ne, bne_eq_false_iff_eq, ne_eq, inI64, List.length_append] at *) <;> omega))
    all_goals ((first | refine end_retE ?_ | refine end_normE ?_); simp only [fin, go_sem])
    all_goals exact dv_of (by first | exact slK_sl | rfl) (by simp_all [dimsS, w64])
  · skip
    refine pc_ofR F2_ok mixed (fun _ => [0, 1, 4, 5]) (rs := [.tmp 4, .tmp 5]) Try.func105 rfl (by kernel_rfl) (by kernel_rfl) (Nat.le_of_ble_eq_true rfl) ?_
    simp only [initF_cons, initF_nil, Nat.reduceAdd]
    refine t_name fun KF => ?_
    unfold F2
    repeat' (first
     | (with_reducible first | refine t_seq fun K => ?_ | refine t_block ?_ | refine t_scope ?_ | refine t_label ?_ | refine t_skip ?_ | refine t_exit ?_ | refine t_ret ?_ | refine t_k ?_ | refine t_gF ?_ | exact kp_nil | exact Kp.refl _ | exact kp_to | refine kp_cons ?_ | refine kp_arr ?_ | refine kp_app ?_ | refine t_p ?_ | refine t_br (fun hc => ?_) fun hc => ?_)
     | ((with_reducible first | refine t_kE ?_ | refine t_kD ?_ | refine t_gS ?_ | refine t_kL ?_ | refine t_kLF ?_ ?_ | refine t_region fun K => ?_ | refine t_cond fun A B => ?_ | refine t_draw (by kernel_rfl) fun K => ?_); simp only [go_sem, geff, con106_f, con106_c, ils_length])
     | ((with_reducible refine kp_skip ?_ ?_); rfl) | simp only [thenQ, blockQ, scopeQ, Nat.reduceEqDiff, reduceIte] | (with_reducible first | refine And.intro ?_ ?_ | intro vr))
    all_goals try (first | (with_reducible assumption) | (intros; (try simp only [Bool.and_eq_true, Bool.or_eq_true, Bool.or_eq_false_iff, Bool.not_eq_true', Bool.not_eq_false', decide_eq_true_eq, decide_eq_false_iff_not, beq_iff_eq, beq_eq_false_iff_ne, bne_iff_ne, bne_eq_false_iff_eq, ne_eq, inI64, List.length_append] at *) <;> omega))
    all_goals ((first | refine end_retE ?_ | refine end_normE ?_); simp only [fin, go_sem])
    all_goals exact dv_of (by first | exact slK_sl | rfl) (by simp_all [dimsS, w64])
  · skip
    refine pc_ofR F3_ok mixed (fun _ => [0, 1, 4, 5]) (rs := [.tmp 4, .tmp 5]) Try.func108 rfl (by kernel_rfl) (by kernel_rfl) (Nat.le_of_ble_eq_true rfl) ?_
    simp only [initF_cons, initF_nil, Nat.reduceAdd]
    refine t_name fun KF => ?_
    unfold F3
    repeat' (first
     | (with_reducible first | refine t_seq fun K => ?_ | refine t_block ?_ | refine t_scope ?_ | refine t_label ?_ | refine t_skip ?_ | refine t_exit ?_ | refine t_ret ?_ | refine t_k ?_ | refine t_gF ?_ | exact kp_nil | exact Kp.refl _ | exact kp_to | refine kp_cons ?_ | refine kp_arr ?_ | refine kp_app ?_ | refine t_p ?_ | refine t_br (fun hc => ?_) fun hc => ?_)
     | ((with_reducible first | refine t_kE ?_ | refine t_kD ?_ | refine t_gS ?_ | refine t_kL ?_ | refine t_kLF ?_ ?_ | refine t_region fun K => ?_ | refine t_cond fun A B => ?_ | refine t_draw (by kernel_rfl) fun K => ?_); simp only [go_sem, geff, con106_f, con106_c, ils_length])
     | ((with_reducible refine kp_skip ?_ ?_); rfl) | simp only [thenQ, blockQ, scopeQ, Nat.reduceEqDiff, reduceIte] | (with_reducible first | refine And.intro ?_ ?_ | intro vr))
    all_goals try (first | (with_reducible assumption) | (intros; (try simp only [Bool.and_eq_true, Bool.or_eq_true, Bool.or_eq_false_iff, Bool.not_eq_true', Bool.not_eq_false', decide_eq_true_eq, decide_eq_false_iff_not, beq_iff_eq, beq_eq_false_iff_ne, bne_iff_ne, bne_eq_false_iff_eq, ne_eq, inI64, List.length_append] at *) <;> omega))
    all_goals ((first | refine end_retE ?_ | refine end_normE ?_); simp only [fin, go_sem])
    all_goals exact dv_of (by first | exact slK_sl | rfl) (by simp_all [dimsS, w64])
  · skip
    refine pc_ofR F2_ok mixed (fun _ => [1, 4, 5]) (rs := [.tmp 4, .tmp 5]) Try.func110 rfl (by kernel_rfl) (by kernel_rfl) (Nat.le_of_ble_eq_true rfl) ?_
    simp only [initF_cons, initF_nil, Nat.reduceAdd]
    refine t_name fun KF => ?_
    unfold F2
    repeat' (first
     | (with_reducible first | refine t_seq fun K => ?_ | refine t_block ?_ | refine t_scope ?_ | refine t_label ?_ | refine t_skip ?_ | refine t_exit ?_ | refine t_ret ?_ | refine t_k ?_ | refine t_gF ?_ | exact kp_nil | exact Kp.refl _ | exact kp_to | refine kp_cons ?_ | refine kp_arr ?_ | refine kp_app ?_ | refine t_p ?_ | refine t_br (fun hc => ?_) fun hc => ?_)
     | ((with_reducible first | refine t_kE ?_ | refine t_kD ?_ | refine t_gS ?_ | refine t_kL ?_ | refine t_kLF ?_ ?_ | refine t_region fun K => ?_ | refine t_cond fun A B => ?_ | refine t_draw (by kernel_rfl) fun K => ?_); simp only [go_sem, geff, con106_f, con106_c, ils_length])
     | ((with_reducible refine kp_skip ?_ ?_); rfl) | simp only [thenQ, blockQ, scopeQ, Nat.reduceEqDiff, reduceIte] | (with_reducible first | refine And.intro ?_ ?_ | intro vr))
    all_goals try (first | (with_reducible assumption) | (intros; (try simp only [Bool.and_eq_true, Bool.or_eq_true, Bool.or_eq_false_iff, Bool.not_eq_true', Bool.not_eq_false', decide_eq_true_eq, decide_eq_false_iff_not, beq_iff_eq, beq_eq_false_iff_ne, bne_iff_ne, bne_eq_false_iff_eq, ne_eq, inI64, List.length_append] at *) <;> omega))
    all_goals ((first | refine end_retE ?_ | refine end_normE ?_); simp only [fin, go_sem])
    all_goals exact dv_of (by first | exact slK_sl | rfl) (by simp_all [dimsS, w64])
  · skip
    refine pc_ofR F2_ok mixed (fun _ => [1, 4, 5]) (rs := [.tmp 4, .tmp 5]) Try.func112 rfl (by kernel_rfl) (by kernel_rfl) (Nat.le_of_ble_eq_true rfl) ?_
    simp only [initF_cons, initF_nil, Nat.reduceAdd]
    refine t_name fun KF => ?_
    unfold F2
    repeat' (first
     | (with_reducible first | refine t_seq fun K => ?_ | refine t_block ?_ | refine t_scope ?_ | refine t_label ?_ | refine t_skip ?_ | refine t_exit ?_ | refine t_ret ?_ | refine t_k ?_ | refine t_gF ?_ | exact kp_nil | exact Kp.refl _ | exact kp_to | refine kp_cons ?_ | refine kp_arr ?_ | refine kp_app ?_ | refine t_p ?_ | refine t_br (fun hc => ?_) fun hc => ?_)
     | ((with_reducible first | refine t_kE ?_ | refine t_kD ?_ | refine t_gS ?_ | refine t_kL ?_ | refine t_kLF ?_ ?_ | refine t_region fun K => ?_ | refine t_cond fun A B => ?_ | refine t_draw (by kernel_rfl) fun K => ?_); simp only [go_sem, geff, con106_f, con106_c, ils_length, w2])
     | ((with_reducible refine kp_skip ?_ ?_); rfl) | simp only [thenQ, blockQ, scopeQ, Nat.reduceEqDiff, reduceIte] | (with_reducible first | refine And.intro ?_ ?_ | intro vr))
    all_goals try (first | (with_reducible assumption) | (intros; (try simp only [Bool.and_eq_true, Bool.or_eq_true, Bool.or_eq_false_iff, Bool.not_eq_true', Bool.not_eq_false', decide_eq_true_eq, decide_eq_false_iff_not, beq_iff_eq, beq_eq_false_iff_ne, bne_iff_ne, bne_eq_false_iff_eq, ne_eq, inI64, List.length_append] at *) <;> omega))
    all_goals ((first | refine end_retE ?_ | refine end_normE ?_); simp only [fin, go_sem])
    all_goals exact dv_of (by first | exact slK_sl | rfl) (by simp_all [dimsS, w64])
  · skip
    refine pc_ofR F2_ok mixed (fun _ => [1, 4, 5]) (rs := [.tmp 4, .tmp 5]) Try.func113 rfl (by kernel_rfl) (by kernel_rfl) (Nat.le_of_ble_eq_true rfl) ?_
    simp only [initF_cons, initF_nil, Nat.reduceAdd]
    refine t_name fun KF => ?_
    unfold F2
    repeat' (first
     | (with_reducible first | refine t_seq fun K => ?_ | refine t_block ?_ | refine t_scope ?_ | refine t_label ?_ | refine t_skip ?_ | refine t_exit ?_ | refine t_ret ?_ | refine t_k ?_ | refine t_gF ?_ | exact kp_nil | exact Kp.refl _ | exact kp_to | refine kp_cons ?_ | refine kp_arr ?_ | refine kp_app ?_ | refine t_p ?_ | refine t_br (fun hc => ?_) fun hc => ?_)
     | ((with_reducible first | refine t_kE ?_ | refine t_kD ?_ | refine t_gS ?_ | refine t_kL ?_ | refine t_kLF ?_ ?_ | refine t_region fun K => ?_ | refine t_cond fun A B => ?_ | refine t_draw (by kernel_rfl) fun K => ?_); simp only [go_sem, geff, con106_f, con106_c, ils_length])
     | ((with_reducible refine kp_skip ?_ ?_); rfl) | simp only [thenQ, blockQ, scopeQ, Nat.reduceEqDiff, reduceIte] | (with_reducible first | refine And.intro ?_ ?_ | intro vr))
    all_goals try (first | (with_reducible assumption) | (intros; (try simp only [Bool.and_eq_true, Bool.or_eq_true, Bool.or_eq_false_iff, Bool.not_eq_true', Bool.not_eq_false', decide_eq_true_eq, decide_eq_false_iff_not, beq_iff_eq, beq_eq_false_iff_ne, bne_iff_ne, bne_eq_false_iff_eq, ne_eq, inI64, List.length_append] at *) <;> omega))
    all_goals ((first | refine end_retE ?_ | refine end_normE ?_); simp only [fin, go_sem])
    all_goals exact dv_of (by first | exact slK_sl | rfl) (by simp_all [dimsS, w64])
  · skip
    refine pc_ofR F2_ok mixed (fun _ => [1, 4, 5, 16]) (rs := [.tmp 4, .tmp 5]) Try.func115 rfl (by kernel_rfl) (by kernel_rfl) (Nat.le_of_ble_eq_true rfl) ?_
    simp only [initF_cons, initF_nil, Nat.reduceAdd]
    refine t_name fun KF => ?_
    unfold F2
    repeat' (first
     | (with_reducible first | refine t_seq fun K => ?_ | refine t_block ?_ | refine t_scope ?_ | refine t_label ?_ | refine t_skip ?_ | refine t_exit ?_ | refine t_ret ?_ | refine t_k ?_ | refine t_gF ?_ | exact kp_nil | exact Kp.refl _ | exact kp_to | refine kp_cons ?_ | refine kp_arr ?_ | refine kp_app ?_ | refine t_p ?_ | refine t_br (fun hc => ?_) fun hc => ?_)
     | ((with_reducible first | refine t_kE ?_ | refine t_kD ?_ | refine t_gS ?_ | refine t_kL ?_ | refine t_kLF ?_ ?_ | refine t_region fun K => ?_ | refine t_cond fun A B => ?_ | refine t_draw (by kernel_rfl) fun K => ?_); simp only [go_sem, geff, con106_f, con106_c, ils_length])
     | ((with_reducible refine kp_skip ?_ ?_); rfl) | simp only [thenQ, blockQ, scopeQ, Nat.reduceEqDiff, reduceIte] | (with_reducible first | refine And.intro ?_ ?_ | intro vr))
    all_goals try (first | (with_reducible assumption) | (intros; (try simp only [Bool.and_eq_true, Bool.or_eq_true, Bool.or_eq_false_iff, Bool.not_eq_true', Bool.not_eq_false', decide_eq_true_eq, decide_eq_false_iff_not, beq_iff_eq, beq_eq_false_iff_ne, bne_iff_ne, bne_eq_false_iff_eq, ne_eq, inI64, List.length_append] at *) <;> omega))
    all_goals ((first | refine end_retE ?_ | refine end_normE ?_); simp only [fin, go_sem])
    · exact dv_of (by first | exact slK_sl | rfl) (by simp_all [dimsS, w64])
    · refine dv_of slK_sl ?_
      have e : List.take 1 (ds.getD 0 []) = [(ds.getD 0 []).getD 0 0] := by
        generalize ds.getD 0 [] = d at hp
        match d, hp with
        | a :: _, _ => rfl
      rw [e]
      simp_all [dimsS]
  · skip
    refine pc_ofR F3_ok mixed (fun _ => [0, 1, 4, 5]) (rs := [.tmp 4, .tmp 5]) Try.func117 rfl (by kernel_rfl) (by kernel_rfl) (Nat.le_of_ble_eq_true rfl) ?_
    simp only [initF_cons, initF_nil, Nat.reduceAdd]
    refine t_name fun KF => ?_
    unfold F3
    repeat' (first
     | (with_reducible first | refine t_seq fun K => ?_ | refine t_block ?_ | refine t_scope ?_ | refine t_label ?_ | refine t_skip ?_ | refine t_exit ?_ | refine t_ret ?_ | refine t_k ?_ | refine t_gF ?_ | exact kp_nil | exact Kp.refl _ | exact kp_to | refine kp_cons ?_ | refine kp_arr ?_ | refine kp_app ?_ | refine t_p ?_ | refine t_br (fun hc => ?_) fun hc => ?_)
     | ((with_reducible first | refine t_kE ?_ | refine t_kD ?_ | refine t_gS ?_ | refine t_kL ?_ | refine t_kLF ?_ ?_ | refine t_region fun K => ?_ | refine t_cond fun A B => ?_ | refine t_draw (by kernel_rfl) fun K => ?_); simp only [go_sem, geff, con106_f, con106_c, ils_length])
     | ((with_reducible refine kp_skip ?_ ?_); rfl) | simp only [thenQ, blockQ, scopeQ, Nat.reduceEqDiff, reduceIte] | (with_reducible first | refine And.intro ?_ ?_ | intro vr))
    all_goals try (first | (with_reducible assumption) | (intros; (try simp only [Bool.and_eq_true, Bool.or_eq_true, Bool.or_eq_false_iff, Bool.not_eq_true', Bool.not_eq_false', decide_eq_true_eq, decide_eq_false_iff_not, beq_iff_eq, beq_eq_false_iff_ne, bne_iff_ne, bne_eq_false_iff_eq, ne_eq, inI64, List.length_append] at *) <;> omega))
    all_goals ((first | refine end_retE ?_ | refine end_normE ?_); simp only [fin, go_sem])
    all_goals exact dv_of (by first | exact slK_sl | rfl) (by simp_all [dimsS, w64])
  · skip
    have ht : (decide (k < 1) || decide (k > 64)) = false → inI64 (((ds.getD 0 []).getD 0 0).tdiv k) := fun h => by
      simp only [Bool.or_eq_false_iff, decide_eq_false_iff_not] at h
      have := tdiv_bd h00 (k := k) (by omega)
      unfold inI64; omega
    refine pc_ofR F2_ok mixed (fun _ => [0, 1, 4, 5, 6, 13]) (rs := [.tmp 4, .tmp 5]) Try.func119 rfl (by kernel_rfl) (by kernel_rfl) (Nat.le_of_ble_eq_true rfl) ?_
    simp only [initF_cons, initF_nil, Nat.reduceAdd]
    refine t_name fun KF => ?_
    unfold F2
    repeat' (first
     | (with_reducible first | refine t_seq fun K => ?_ | refine t_block ?_ | refine t_scope ?_ | refine t_label ?_ | refine t_skip ?_ | refine t_exit ?_ | refine t_ret ?_ | refine t_k ?_ | refine t_gF ?_ | exact kp_nil | exact Kp.refl _ | exact kp_to | refine kp_cons ?_ | refine kp_arr ?_ | refine kp_app ?_ | refine t_p ?_ | refine t_br (fun hc => ?_) fun hc => ?_)
     | ((with_reducible first | refine t_kE ?_ | refine t_kD ?_ | refine t_gS ?_ | refine t_kL ?_ | refine t_kLF ?_ ?_ | refine t_region fun K => ?_ | refine t_cond fun A B => ?_ | refine t_draw (by kernel_rfl) fun K => ?_); simp only [go_sem, geff, con106_f, con106_c, ils_length])
     | ((with_reducible refine kp_skip ?_ ?_); rfl) | simp only [thenQ, blockQ, scopeQ, Nat.reduceEqDiff, reduceIte] | (with_reducible first | refine And.intro ?_ ?_ | intro vr))
    all_goals try exact ht ‹_›
    all_goals try (first | (with_reducible assumption) | (intros; (try simp only [Bool.and_eq_true, Bool.or_eq_true, Bool.or_eq_false_iff, Bool.not_eq_true', Bool.not_eq_false', decide_eq_true_eq, decide_eq_false_iff_not, beq_iff_eq, beq_eq_false_iff_ne, bne_iff_ne, bne_eq_false_iff_eq, ne_eq, inI64, List.length_append] at *) <;> omega))
    all_goals ((first | refine end_retE ?_ | refine end_normE ?_); simp only [fin, go_sem])
    · refine dv_of rfl ?_
      simp only [Bool.or_eq_true, decide_eq_true_eq] at hc
      simp only [dimsS]; rw [if_pos hc]
    · refine dv_of rfl ?_
      revert hc
      simp only [Bool.or_eq_false_iff, decide_eq_false_iff_not] at *
      intro hc
      simp only [dimsS]; rw [if_neg (by omega), if_pos (by simpa using hc)]
    · refine dv_of rfl ?_
      revert hc
      simp only [Bool.or_eq_false_iff, decide_eq_false_iff_not] at *
      intro hc
      simp only [dimsS]; rw [if_neg (by omega), if_neg (by simpa using hc)]
  · skip
    refine pc_ofR F2_ok mixed (fun _ => [4, 5]) (rs := [.tmp 4, .tmp 5]) Try.func121 rfl (by kernel_rfl) (by kernel_rfl) (Nat.le_of_ble_eq_true rfl) ?_
    simp only [initF_cons, initF_nil, Nat.reduceAdd]
    refine t_name fun KF => ?_
    unfold F2
    repeat' (first
     | (with_reducible first | refine t_seq fun K => ?_ | refine t_block ?_ | refine t_scope ?_ | refine t_label ?_ | refine t_skip ?_ | refine t_exit ?_ | refine t_ret ?_ | refine t_k ?_ | refine t_gF ?_ | exact kp_nil | exact Kp.refl _ | exact kp_to | refine kp_cons ?_ | refine kp_arr ?_ | refine kp_app ?_ | refine t_p ?_ | refine t_br (fun hc => ?_) fun hc => ?_)
     | ((with_reducible first | refine t_kE ?_ | refine t_kD ?_ | refine t_gS ?_ | refine t_kL ?_ | refine t_kLF ?_ ?_ | refine t_region fun K => ?_ | refine t_cond fun A B => ?_ | refine t_draw (by kernel_rfl) fun K => ?_); simp only [go_sem, geff, con106_f, con106_c, ils_length])
     | ((with_reducible refine kp_skip ?_ ?_); rfl) | simp only [thenQ, blockQ, scopeQ, Nat.reduceEqDiff, reduceIte] | (with_reducible first | refine And.intro ?_ ?_ | intro vr))
    all_goals try (first | (with_reducible assumption) | (intros; (try simp only [Bool.and_eq_true, Bool.or_eq_true, Bool.or_eq_false_iff, Bool.not_eq_true', Bool.not_eq_false', decide_eq_true_eq, decide_eq_false_iff_not, beq_iff_eq, beq_eq_false_iff_ne, bne_iff_ne, bne_eq_false_iff_eq, ne_eq, inI64, List.length_append] at *) <;> omega))
    all_goals ((first | refine end_retE ?_ | refine end_normE ?_); simp only [fin, go_sem])
    all_goals exact dv_of (by first | exact slK_sl | rfl) (by simp_all [dimsS, w64])
  · skip
    refine pc_ofR F2_ok mixed (fun _ => [1, 4, 5]) (rs := [.tmp 4, .tmp 5]) Try.func101 rfl (by kernel_rfl) (by kernel_rfl) (Nat.le_of_ble_eq_true rfl) ?_
    simp only [initF_cons, initF_nil, Nat.reduceAdd]
    refine t_name fun KF => ?_
    unfold F2
    repeat' (first
     | (with_reducible first | refine t_seq fun K => ?_ | refine t_block ?_ | refine t_scope ?_ | refine t_label ?_ | refine t_skip ?_ | refine t_exit ?_ | refine t_ret ?_ | refine t_k ?_ | refine t_gF ?_ | exact kp_nil | exact Kp.refl _ | exact kp_to | refine kp_cons ?_ | refine kp_arr ?_ | refine kp_app ?_ | refine t_p ?_ | refine t_br (fun hc => ?_) fun hc => ?_)
     | ((with_reducible first | refine t_kE ?_ | refine t_kD ?_ | refine t_gS ?_ | refine t_kL ?_ | refine t_kLF ?_ ?_ | refine t_region fun K => ?_ | refine t_cond fun A B => ?_ | refine t_draw (by kernel_rfl) fun K => ?_); simp only [go_sem, geff, con106_f, con106_c, ils_length])
     | ((with_reducible refine kp_skip ?_ ?_); rfl) | simp only [thenQ, blockQ, scopeQ, Nat.reduceEqDiff, reduceIte] | (with_reducible first | refine And.intro ?_ ?_ | intro vr))
    all_goals try (first | (with_reducible assumption) | (intros; (try simp only [Bool.and_eq_true, Bool.or_eq_true, Bool.or_eq_false_iff, Bool.not_eq_true', Bool.not_eq_false', decide_eq_true_eq, decide_eq_false_iff_not, beq_iff_eq, beq_eq_false_iff_ne, bne_iff_ne, bne_eq_false_iff_eq, ne_eq, inI64, List.length_append] at *) <;> omega))
    all_goals ((first | refine end_retE ?_ | refine end_normE ?_); simp only [fin, go_sem])
    all_goals exact dv_of (by first | exact slK_sl | rfl) (by simp_all [dimsS, w64])
end Go.Proofs.Ytjlcbojpiieafaa

/- The entries of structure: found by their names. -/
namespace Go.Proofs.Ytjlcbojpiieafaa
open Go Go.Fw

def n_iota : ByteArray := ⟨#[105, 111, 116, 97]⟩
def n_fill : ByteArray := ⟨#[102, 105, 108, 108]⟩
def n_take : ByteArray := ⟨#[116, 97, 107, 101]⟩
def n_drop : ByteArray := ⟨#[100, 114, 111, 112]⟩
def n_reverse : ByteArray := ⟨#[114, 101, 118, 101, 114, 115, 101]⟩
def n_append : ByteArray := ⟨#[97, 112, 112, 101, 110, 100]⟩
def n_transpose : ByteArray := ⟨#[116, 114, 97, 110, 115, 112, 111, 115, 101]⟩
def n_diagonal : ByteArray := ⟨#[100, 105, 97, 103, 111, 110, 97, 108]⟩
def n_windows : ByteArray := ⟨#[119, 105, 110, 100, 111, 119, 115]⟩
def n_chunk : ByteArray := ⟨#[99, 104, 117, 110, 107]⟩
def n_index : ByteArray := ⟨#[105, 110, 100, 101, 120]⟩
def n_update : ByteArray := ⟨#[117, 112, 100, 97, 116, 101]⟩
def n_pack : ByteArray := ⟨#[112, 97, 99, 107]⟩
structure Ent where
  op : ByteArray
  sized : Bool
  ranks : List Int
  dims : Option Nat
  from_ : Option Nat
def fnV : Option Nat → AV
  | some g => .fn (.func g) [] []
  | none => .lit .nilFunc
def entV (e : Ent) : AV := .agg [.lit (.string e.op), .lit (.bool e.sized), .sl false 1 (ints .i64 e.ranks), fnV e.dims, fnV e.from_]
theorem entV_def {e : Ent} : entV e = .agg [.lit (.string e.op), .lit (.bool e.sized), .sl false 1 (ints .i64 e.ranks), fnV e.dims, fnV e.from_] := rfl
def entsV (l : List Ent) : List AV := l.map entV
def ent0 : Ent := ⟨⟨#[]⟩, false, [], none, none⟩
def jE : AV := entV ent0
def ents : List Ent := [⟨n_iota, true, [], some 103, none⟩,
  ⟨n_fill, true, [0], some 103, some 104⟩,
  ⟨n_take, true, [1], some 105, some 107⟩,
  ⟨n_drop, true, [1], some 108, some 109⟩,
  ⟨n_reverse, false, [1], some 110, some 111⟩,
  ⟨n_append, false, [1, 1], some 112, none⟩,
  ⟨n_transpose, false, [2], some 113, some 114⟩,
  ⟨n_diagonal, false, [2], some 115, some 116⟩,
  ⟨n_windows, true, [1], some 117, some 118⟩,
  ⟨n_chunk, false, [1], some 119, some 120⟩,
  ⟨n_index, false, [1, 0], some 121, none⟩,
  ⟨n_update, false, [1, 0, 0], some 110, none⟩]
theorem entsV_length (l : List Ent) : (entsV l).length = l.length := by simp [entsV]
theorem entsV_getJ (l : List Ent) (i : Nat) : (entsV l).getD i jE = entV (l.getD i ent0) := by
  simp only [entsV, jE, List.getD_eq_getElem?_getD, List.getElem?_map]; cases l[i]? <;> rfl
theorem sz89' : szT Try.prog 89 = 1 := by kernel_rfl
theorem ag89' : aggT Try.prog 89 = some false := by kernel_rfl
theorem sz90' : szT Try.prog 90 = 1 := by kernel_rfl
theorem ag90' : aggT Try.prog 90 = some false := by kernel_rfl
attribute [go_sem] sz89' ag89' sz90' ag90'
def jk2 : TypeId → AV := fun t => if t = 92 then jE else jk t
theorem jk2_92 : jk2 92 = jE := rfl
theorem jk2_3 : jk2 3 = .lit (.int .i64 0) := rfl
theorem jk2_9 : jk2 9 = .lit (.string ByteArray.empty) := rfl
theorem jk2_23 : jk2 23 = jI := rfl
theorem jk2_33 : jk2 33 = jA := rfl
attribute [go_sem] jk2_92 jk2_3 jk2_9 jk2_23 jk2_33 entsV_getJ
theorem fnV_none : fnV none = .lit .nilFunc := rfl
theorem fnV_some {g : Nat} : fnV (some g) = .fn (.func g) [] [] := rfl
theorem close0_fnV {b : Bool} {σ : List AObj} {o : Option Nat} : close0 b σ (fnV o) = some (fnV o) := by cases o <;> rfl
theorem ids0_fnV {o : Option Nat} : ids0 (fnV o) = [] := by cases o <;> rfl
theorem cells_fnV {o : Option Nat} : (fnV o).cells = [fnV o] := by cases o <;> rfl
theorem solid_fnV {o : Option Nat} : (fnV o).solid = true := by cases o <;> rfl
attribute [go_sem] close0_fnV ids0_fnV cells_fnV solid_fnV
noncomputable def F4 : Env := envJ (P := Try.prog) jk2 zer (fun _ => false) (fun _ => false) [] []
theorem F4_ok : EnvOk Try.prog F4 := envJOk zer_ok
theorem lel_fl {b : Bool} {k : IntKind} {xs ys : List AV} {l : List Int} (h : kOf k xs = some l) (hs : LeL ys (flat (entsV []))) : True := trivial
set_option maxRecDepth 20000 in
set_option maxHeartbeats 4000000 in
theorem entries_pc : PC Try.prog 88 [] (.sl false 5 (entsV ents)) := by
  refine pc_ofR F4_ok mixed (fun _ => [0, 1]) (rs := [.tmp 0]) Try.func88 rfl (by kernel_rfl) (by kernel_rfl) (Nat.le_of_ble_eq_true rfl) ?_
  simp only [initF_cons, initF_nil, Nat.reduceAdd]
  refine t_name fun KF => ?_
  unfold F4
  repeat' (first
   | (with_reducible first | refine t_seq fun K => ?_ | refine t_block ?_ | refine t_scope ?_ | refine t_label ?_ | refine t_skip ?_ | refine t_exit ?_ | refine t_ret ?_ | refine t_k ?_ | refine t_gF ?_ | exact kp_nil | exact Kp.refl _ | exact kp_to | refine kp_cons ?_ | refine kp_arr ?_ | refine kp_app ?_ | refine t_p ?_ | refine t_br (fun hc => ?_) fun hc => ?_)
   | ((with_reducible first | refine t_kE ?_ | refine t_kD ?_ | refine t_gS ?_ | refine t_kL ?_ | refine t_kLF ?_ ?_ | refine t_region fun K => ?_ | refine t_cond fun A B => ?_ | refine t_draw (by kernel_rfl) fun K => ?_); simp only [go_sem, geff])
   | ((with_reducible refine kp_skip ?_ ?_); rfl) | simp only [thenQ, blockQ, scopeQ, Nat.reduceEqDiff, reduceIte] | (with_reducible first | refine And.intro ?_ ?_ | intro vr))
  all_goals try (first | (with_reducible assumption) | (intros; (try simp only [Bool.and_eq_true, Bool.or_eq_true, Bool.or_eq_false_iff, Bool.not_eq_true', Bool.not_eq_false', decide_eq_true_eq, decide_eq_false_iff_not, beq_iff_eq, beq_eq_false_iff_ne, bne_iff_ne, bne_eq_false_iff_eq, ne_eq, inI64, List.length_append] at *) <;> omega))
  all_goals ((first | refine end_retE ?_ | refine end_normE ?_); simp only [fin, go_sem])
  refine LeA.sl rfl (by simp [entsV, entV, AV.cells]) ?_
  show LeL _ _
  simp only [flat, entsV, ents, entV, List.map_cons, List.map_nil, List.flatMap_cons, List.flatMap_nil, cells_agg, List.cons_append, List.nil_append, fnV, ints]
  repeat' (first | exact LeL.nil | refine LeL.cons ?_ ?_)
  all_goals first | exact LeA.refl _ | exact LeA.full _ _ _ | exact LeA.nil _ _
def findG : List Ent → ByteArray → Option Ent
  | [], _ => none
  | e :: l, s => if eqS e.op s = true then some e else findG l s
def packE (n : Int) : Ent := ⟨n_pack, false, List.replicate (maxI n 1).toNat 0, some 101, none⟩
def foundS : Option Ent → Ent × Bool
  | some e => (e, true)
  | none => (ent0, false)
def findS (op : ByteArray) (n : Int) : Ent × Bool := if eqS op n_pack = true then (packE n, true) else foundS (findG ents op)
def entOf : AV → Option Ent
  | .agg [.lit (.string s), .lit (.bool b), x, y, z] => match slK .i64 x with
    | some r => (match y, z with
      | .lit .nilFunc, .lit .nilFunc => some ⟨s, b, r, none, none⟩
      | .fn (.func g) [] [], .lit .nilFunc => some ⟨s, b, r, some g, none⟩
      | .fn (.func g) [] [], .fn (.func h) [] [] => some ⟨s, b, r, some g, some h⟩
      | .lit .nilFunc, .fn (.func h) [] [] => some ⟨s, b, r, none, some h⟩
      | _, _ => none)
    | none => none
  | _ => none
def eV (p : Ent × Bool) : AV := .tup [entV p.1, .lit (.bool p.2)]
def gV (p : Ent × Int) : AV := .tup [entV p.1, .lit (.int .i64 p.2)]
theorem eV_def {p : Ent × Bool} : eV p = .tup [entV p.1, .lit (.bool p.2)] := rfl
theorem gV_def {p : Ent × Int} : gV p = .tup [entV p.1, .lit (.int .i64 p.2)] := rfl
theorem ent_of {s : ByteArray} {b : Bool} {x y z : AV} {r : List Int} {e : Ent} {o p : Option Nat} (hx : slK .i64 x = some r) (hy : y = fnV o) (hz : z = fnV p) (h : e = ⟨s, b, r, o, p⟩) : LeA (.agg [.lit (.string s), .lit (.bool b), x, y, z]) (entV e) := by
  subst h hy hz
  exact LeA.agg ⟨LeA.refl _, LeA.refl _, slK_le hx, LeA.refl _, LeA.refl _, trivial⟩
noncomputable def con88 : PCon Try.prog where
  f := 88
  c := fun
    | [] => some (True, .sl false 5 (entsV ents))
    | _ => none
  ok := by
    intro args p r hc hp
    split at hc
    · cases hc; exact entries_pc
    · cases hc
  fk := fk88
theorem con88_f : con88.f = 88 := rfl
theorem con88_c  : con88.c [] = some (True, .sl false 5 (entsV ents)) := rfl
noncomputable def F5 : Env := envJ (P := Try.prog) jk2 zer (fun _ => false) (fun _ => false) [con88] []
theorem F5_ok : EnvOk Try.prog F5 := envJOk zer_ok
set_option maxRecDepth 20000 in
set_option maxHeartbeats 4000000 in
theorem find_pc {op : ByteArray} {n : Int} (hn : n ≤ 1000000) : PC Try.prog 86 [.lit (.string op), .lit (.int .i64 n)] (eV (findS op n)) := by
  have hm : 0 ≤ maxI n 1 ∧ maxI n 1 ≤ 1000000 := by unfold maxI; split <;> omega
  generalize hR : findS op n = R
  by_cases h : eqS op n_pack = true
  · have h' : eqS op ⟨#[112, 97, 99, 107]⟩ = true := h
    unfold findS at hR; rw [if_pos h] at hR
    refine pc_ofR F5_ok mixed (fun _ => [0, 1, 4, 5, 7, 9, 15, 16, 17, 18, 24]) (rs := [.cell 4 92, .tmp 5]) Try.func86 rfl (by kernel_rfl) (by kernel_rfl) (Nat.le_of_ble_eq_true rfl) ?_
    simp only [initF_cons, initF_nil, Nat.reduceAdd]
    refine t_name fun KF => ?_
    unfold F5
    repeat' (first
     | (with_reducible first | refine t_seq fun K => ?_ | refine t_block ?_ | refine t_scope ?_ | refine t_label ?_ | refine t_skip ?_ | refine t_exit ?_ | refine t_ret ?_ | refine t_k ?_ | refine t_gF ?_ | exact kp_nil | exact Kp.refl _ | exact kp_to | refine kp_cons ?_ | refine kp_arr ?_ | refine kp_app ?_ | refine t_p ?_ | refine t_br (fun hc => ?_) fun hc => ?_)
     | ((with_reducible first | refine t_kE ?_ | refine t_kD ?_ | refine t_gS ?_ | refine t_kL ?_ | refine t_kLF ?_ ?_ | refine t_region fun K => ?_ | refine t_cond fun A B => ?_ | refine t_draw (by kernel_rfl) fun K => ?_); simp only [go_sem, geff, con88_f, h', ints_replicate])
     | ((with_reducible refine kp_skip ?_ ?_); rfl) | simp only [thenQ, blockQ, scopeQ, Nat.reduceEqDiff, reduceIte] | (with_reducible first | refine And.intro ?_ ?_ | intro vr))
    all_goals try (first | (with_reducible assumption) | (intros; (try simp only [Bool.and_eq_true, Bool.or_eq_true, Bool.or_eq_false_iff, Bool.not_eq_true', Bool.not_eq_false', decide_eq_true_eq, decide_eq_false_iff_not, beq_iff_eq, beq_eq_false_iff_ne, bne_iff_ne, bne_eq_false_iff_eq, ne_eq, inI64, List.length_append] at *) <;> omega))
    all_goals ((first | refine end_retE ?_ | refine end_normE ?_); simp only [fin, go_sem])
    subst hR
    exact LeA.tup ⟨ent_of (by first | exact slK_sl | rfl) rfl rfl (by unfold packE; rw [← eqS_iff.1 h]), LeA.refl _, trivial⟩
  · have h' : eqS op ⟨#[112, 97, 99, 107]⟩ = false := Bool.eq_false_iff.2 h
    unfold findS at hR; rw [if_neg h] at hR
    generalize hL : ents = L at hR
    have hlen : L.length = 12 := by rw [← hL]; rfl
    refine pc_ofR F5_ok mixed (fun _ => [0, 1, 4, 5, 7, 9, 15, 16, 17, 18, 24]) (rs := [.cell 4 92, .tmp 5]) Try.func86 rfl (by kernel_rfl) (by kernel_rfl) (Nat.le_of_ble_eq_true rfl) ?_
    simp only [initF_cons, initF_nil, Nat.reduceAdd]
    refine t_name fun KF => ?_
    unfold F5
    repeat' (first
     | (with_reducible first | refine t_seq fun K => ?_ | refine t_block ?_ | refine t_scope ?_ | refine t_label ?_ | refine t_skip ?_ | refine t_exit ?_ | refine t_ret ?_ | refine t_k ?_ | refine t_gF ?_ | exact kp_nil | exact Kp.refl _ | exact kp_to | refine kp_cons ?_ | refine kp_arr ?_ | refine kp_app ?_ | refine t_p ?_ | refine t_br (fun hc => ?_) fun hc => ?_)
     | ((with_reducible first | refine t_kE ?_ | refine t_kD ?_ | refine t_gS ?_ | refine t_kL ?_ | refine t_kLF ?_ ?_ | refine t_region fun K => ?_ | refine t_cond fun A B => ?_ | refine t_draw (by kernel_rfl) fun K => ?_); simp only [go_sem, geff, con88_f, con88_c, h', entsV_length, hL])
     | ((with_reducible refine kp_skip ?_ ?_); rfl) | simp only [thenQ, blockQ, scopeQ, Nat.reduceEqDiff, reduceIte] | (with_reducible first | refine And.intro ?_ ?_ | intro vr))
    all_goals try (first | (with_reducible assumption) | (intros; (try simp only [Bool.and_eq_true, Bool.or_eq_true, Bool.or_eq_false_iff, Bool.not_eq_true', Bool.not_eq_false', decide_eq_true_eq, decide_eq_false_iff_not, beq_iff_eq, beq_eq_false_iff_ne, bne_iff_ne, bne_eq_false_iff_eq, ne_eq, inI64, List.length_append] at *) <;> omega))
    refine t_loopF (ι := { p : Nat × List AObj // p.1 ≤ L.length ∧ foundS (findG (L.drop p.1) op) = R }) (fun i => [(17, .lit (.int .i64 i.1.1))]) (fun i => AObj.box 92 [.lit (.string ByteArray.empty), .lit (.bool false), .sl true 1 [], .lit .nilFunc, .lit .nilFunc] :: i.1.2) (fun i => L.length - i.1.1) ⟨(0, []), by omega, by simpa using hR⟩ ?_ ?_
    · simp only [updL_nil, updL_cons, delF_top, delF_upd, Nat.reduceEqDiff, reduceIte]
      refine Le.frameS (by first | rfl | (simp only [go_sem]; try rfl)) ?_
      repeat' (first | exact leF_top _ | exact (fun _ => LeR.refl _) | (with_reducible refine leF_sl ?_ ?_) | (refine leF_upd ?_ ?_))
      all_goals (first | exact LeR.top _ | exact LeR.refl _ | (refine LeR.of_eq ?_; (try simp only [go_sem]); try rfl) | ((try simp only [go_sem]); try rfl))
    rintro ⟨⟨i, g⟩, hi, hF⟩ K0
    simp only at hi hF
    rcases Nat.lt_or_ge i L.length with hc | hc
    · rw [drop_getD ent0 hc, findG] at hF
      have g3 : decide ((i : Int) < (L.length : Int)) = true := decide_eq_true (by omega)
      repeat' (first
       | (with_reducible first | refine t_seq fun K => ?_ | refine t_block ?_ | refine t_scope ?_ | refine t_label ?_ | refine t_skip ?_ | refine t_exit ?_ | refine t_ret ?_ | refine t_k ?_ | refine t_gF ?_ | exact kp_nil | exact Kp.refl _ | exact kp_to | refine kp_cons ?_ | refine kp_arr ?_ | refine kp_app ?_ | refine t_p ?_ | refine t_br (fun hc => ?_) fun hc => ?_)
       | ((with_reducible first | refine t_kE ?_ | refine t_kD ?_ | refine t_gS ?_ | refine t_kL ?_ | refine t_kLF ?_ ?_ | refine t_region fun K => ?_ | refine t_cond fun A B => ?_ | refine t_draw (by kernel_rfl) fun K => ?_); simp only [go_sem, geff, con88_f, g3, Int.toNat_natCast, entsV_length, entV_def])
       | ((with_reducible refine kp_skip ?_ ?_); rfl) | simp only [thenQ, blockQ, scopeQ, Nat.reduceEqDiff, reduceIte] | (with_reducible first | refine And.intro ?_ ?_ | intro vr))
      all_goals try (first | (with_reducible assumption) | (intros; (try simp only [Bool.and_eq_true, Bool.or_eq_true, Bool.or_eq_false_iff, Bool.not_eq_true', Bool.not_eq_false', decide_eq_true_eq, decide_eq_false_iff_not, beq_iff_eq, beq_eq_false_iff_ne, bne_iff_ne, bne_eq_false_iff_eq, ne_eq, inI64, List.length_append] at *) <;> omega))
      · rw [if_pos hc] at hF
        subst hF
        rcases hd : (L.getD i ent0).dims with _ | g1 <;> rcases hf : (L.getD i ent0).from_ with _ | g2
        all_goals ((first | refine end_retE ?_ | refine end_normE ?_); simp only [fin, go_sem, hd, hf, fnV_none, fnV_some])
        all_goals exact LeA.tup ⟨ent_of (o := (L.getD i ent0).dims) (p := (L.getD i ent0).from_) slK_sl (by rw [hd]; rfl) (by rw [hf]; rfl) rfl, LeA.refl _, trivial⟩
      · skip
        refine ⟨⟨(i + 1, g ++ [AObj.box 92 [.lit (.string (L.getD i ent0).op), .lit (.bool (L.getD i ent0).sized), .sl false 1 (ints .i64 (L.getD i ent0).ranks), fnV (L.getD i ent0).dims, fnV (L.getD i ent0).from_]]), by simp only; omega, by simp_all⟩, by first | (simp only; omega) | omega, ?_⟩
        simp only [updL_nil, updL_cons, delF_top, delF_upd, Nat.reduceEqDiff, reduceIte]
        refine Le.frameS (by first | rfl | (simp only [go_sem]; try rfl)) ?_
        repeat' (first | exact leF_top _ | exact (fun _ => LeR.refl _) | (with_reducible refine leF_sl ?_ ?_) | (refine leF_upd ?_ ?_))
        all_goals (first | exact LeR.top _ | exact LeR.refl _ | (refine LeR.of_eq ?_; (try simp only [go_sem]); try rfl) | ((try simp only [go_sem]); try rfl))
    · have g3 : decide ((i : Int) < (L.length : Int)) = false := decide_eq_false (by omega)
      rw [List.drop_eq_nil_of_le (by omega), findG] at hF
      repeat' (first
       | (with_reducible first | refine t_seq fun K => ?_ | refine t_block ?_ | refine t_scope ?_ | refine t_label ?_ | refine t_skip ?_ | refine t_exit ?_ | refine t_ret ?_ | refine t_k ?_ | refine t_gF ?_ | exact kp_nil | exact Kp.refl _ | exact kp_to | refine kp_cons ?_ | refine kp_arr ?_ | refine kp_app ?_ | refine t_p ?_ | refine t_br (fun hc => ?_) fun hc => ?_)
       | ((with_reducible first | refine t_kE ?_ | refine t_kD ?_ | refine t_gS ?_ | refine t_kL ?_ | refine t_kLF ?_ ?_ | refine t_region fun K => ?_ | refine t_cond fun A B => ?_ | refine t_draw (by kernel_rfl) fun K => ?_); simp only [go_sem, geff, con88_f, g3, Int.toNat_natCast, entsV_length])
       | ((with_reducible refine kp_skip ?_ ?_); rfl) | simp only [thenQ, blockQ, scopeQ, Nat.reduceEqDiff, reduceIte] | (with_reducible first | refine And.intro ?_ ?_ | intro vr))
      all_goals try (first | (with_reducible assumption) | (intros; (try simp only [Bool.and_eq_true, Bool.or_eq_true, Bool.or_eq_false_iff, Bool.not_eq_true', Bool.not_eq_false', decide_eq_true_eq, decide_eq_false_iff_not, beq_iff_eq, beq_eq_false_iff_ne, bne_iff_ne, bne_eq_false_iff_eq, ne_eq, inI64, List.length_append] at *) <;> omega))
      all_goals ((first | refine end_retE ?_ | refine end_normE ?_); simp only [fin, go_sem])
      subst hF
      exact LeA.tup ⟨ent_of (r := []) rfl (o := none) (p := none) rfl rfl rfl, LeA.refl _, trivial⟩
noncomputable def con86 : PCon Try.prog where
  f := 86
  c := fun
    | [.lit (.string op), .lit (.int .i64 n)] => some (n ≤ 1000000, eV (findS op n))
    | _ => none
  ok := by
    intro args p r hc hp
    split at hc
    · cases hc; exact (find_pc hp)
    · cases hc
  fk := fk86
theorem con86_f : con86.f = 86 := rfl
theorem con86_c {op : ByteArray} {n : Int} : con86.c [.lit (.string op), .lit (.int .i64 n)] = some (n ≤ 1000000, eV (findS op n)) := rfl
end Go.Proofs.Ytjlcbojpiieafaa

/- Entries with their numbers of arguments; dimensions. -/
namespace Go.Proofs.Ytjlcbojpiieafaa
open Go Go.Fw

def wantS (e : Ent) : Int := if e.sized = true then 1 else 0
def givenS (op : ByteArray) (ns : Int) (num n : Int) : Ent × Int :=
  if (findS op n).2 = false then ((findS op n).1, 7)
  else if ((findS op n).1.ranks.length : Int) ≠ n ∨ ns ≠ wantS (findS op n).1 ∨ (num ≠ 0 ∧ eqS op n_chunk = false) then ((findS op n).1, 1)
  else ((findS op n).1, 0)
theorem gv_of {s : ByteArray} {b : Bool} {x y z : AV} {r : List Int} {n : Int} {o p : Option Nat} {q : Ent × Int} (hx : slK .i64 x = some r) (hy : y = fnV o) (hz : z = fnV p) (h : (⟨s, b, r, o, p⟩, n) = q) : LeA (.tup [.agg [.lit (.string s), .lit (.bool b), x, y, z], .lit (.int .i64 n)]) (gV q) := by
  subst h
  exact LeA.tup ⟨ent_of hx hy hz rfl, LeA.refl _, trivial⟩
noncomputable def F6 : Env := envJ (P := Try.prog) jk2 zer (fun _ => false) (fun _ => true) [con86] []
theorem F6_ok : EnvOk Try.prog F6 := envJOk zer_ok
set_option maxRecDepth 20000 in
set_option maxHeartbeats 4000000 in
theorem given_pc {op : ByteArray} {ns : List Int} {num n : Int} (hn : n ≤ 1000000) : PC Try.prog 72 [.lit (.string op), .sl false 1 (ints .i64 ns), .lit (.int .i64 num), .lit (.int .i64 n)] (gV (givenS op ns.length num n)) := by
  generalize hR : givenS op ns.length num n = R
  unfold givenS at hR
  generalize hF : findS op n = r at hR
  obtain ⟨⟨s, b, rk, o, p⟩, ok⟩ := r
  rcases o with _ | g1 <;> rcases p with _ | g2
  all_goals simp only at hR
  · skip
    refine pc_ofR F6_ok mixed (fun _ => [0, 1, 2, 3, 8, 9, 10, 11, 12, 20, 21, 25]) (rs := [.cell 8 92, .tmp 9]) Try.func72 rfl (by kernel_rfl) (by kernel_rfl) (Nat.le_of_ble_eq_true rfl) ?_
    simp only [initF_cons, initF_nil, Nat.reduceAdd]
    refine t_name fun KF => ?_
    unfold F6
    repeat' (first
      | with_reducible refine t_seq fun K => ?_
      | with_reducible refine t_block ?_
      | with_reducible refine t_scope ?_
      | with_reducible refine t_label ?_
      | with_reducible refine t_skip ?_
      | with_reducible refine t_exit ?_
      | with_reducible refine t_ret ?_
      | with_reducible refine t_k ?_
      | (with_reducible refine t_gF ?_)
      | ((first | with_reducible refine t_kE ?_ | with_reducible refine t_kD ?_ | with_reducible refine t_gS ?_ | with_reducible refine t_kL ?_ | (with_reducible refine t_kLE ?_ ?_; rotate_left) | with_reducible refine t_region fun K => ?_ | with_reducible refine t_draw (by kernel_rfl) fun K => ?_); simp only [go_sem, geff_true, geff_false, con86_f, con86_c, hF, eV_def, entV_def, fnV_none, fnV_some])
      | (with_reducible exact kp_nil)
      | (with_reducible exact Kp.refl _)
      | (with_reducible exact kp_to)
      | (with_reducible refine kp_cons ?_)
      | (with_reducible refine kp_arr ?_)
      | (with_reducible refine kp_app ?_)
      | ((with_reducible refine kp_skip ?_ ?_); rfl)
      | ((with_reducible refine t_cond fun A B => ?_); simp only [go_sem, geff_true, geff_false, con86_f, con86_c, hF, eV_def, entV_def, fnV_none, fnV_some]; first | (with_reducible refine A.h ?_) | (with_reducible refine B.h ?_) | (refine And.intro (fun hc => A.h ?_) (fun hc => B.h ?_)))
      | ((with_reducible refine t_geffS (fun hg => ?_) (fun hg => ?_)) <;> ((try simp only [Bool.not_eq_true', Bool.not_eq_false', Bool.and_eq_true, Bool.or_eq_false_iff] at hg); simp only [hg, go_sem, geff_true, geff_false, con86_f, con86_c, hF, eV_def, entV_def, fnV_none, fnV_some]))
      | simp only [thenQ_n, thenQ_r, thenQ_e, blockQ_n, blockQ_r, blockQ_e, scopeQ_n, scopeQ_r, scopeQ_e, Nat.reduceEqDiff, reduceIte]
      | (with_reducible refine And.intro ?_ ?_)
      | with_reducible intro vr)
    all_goals try (first | (with_reducible assumption) | (intros; (try simp only [Bool.and_eq_true, Bool.or_eq_true, Bool.or_eq_false_iff, Bool.not_eq_true', Bool.not_eq_false', decide_eq_true_eq, decide_eq_false_iff_not, beq_iff_eq, beq_eq_false_iff_ne, bne_iff_ne, bne_eq_false_iff_eq, ne_eq, inI64, List.length_append] at *) <;> omega))
    all_goals ((first | refine end_retE ?_ | refine end_normE ?_); simp only [fin, go_sem])
    all_goals refine gv_of (o := none) (p := none) slK_sl rfl rfl ?_
    all_goals rw [← hR]
    all_goals simp_all [wantS, n_chunk]
  · skip
    refine pc_ofR F6_ok mixed (fun _ => [0, 1, 2, 3, 8, 9, 10, 11, 12, 20, 21, 25]) (rs := [.cell 8 92, .tmp 9]) Try.func72 rfl (by kernel_rfl) (by kernel_rfl) (Nat.le_of_ble_eq_true rfl) ?_
    simp only [initF_cons, initF_nil, Nat.reduceAdd]
    refine t_name fun KF => ?_
    unfold F6
    repeat' (first
      | with_reducible refine t_seq fun K => ?_
      | with_reducible refine t_block ?_
      | with_reducible refine t_scope ?_
      | with_reducible refine t_label ?_
      | with_reducible refine t_skip ?_
      | with_reducible refine t_exit ?_
      | with_reducible refine t_ret ?_
      | with_reducible refine t_k ?_
      | (with_reducible refine t_gF ?_)
      | ((first | with_reducible refine t_kE ?_ | with_reducible refine t_kD ?_ | with_reducible refine t_gS ?_ | with_reducible refine t_kL ?_ | (with_reducible refine t_kLE ?_ ?_; rotate_left) | with_reducible refine t_region fun K => ?_ | with_reducible refine t_draw (by kernel_rfl) fun K => ?_); simp only [go_sem, geff_true, geff_false, con86_f, con86_c, hF, eV_def, entV_def, fnV_none, fnV_some])
      | (with_reducible exact kp_nil)
      | (with_reducible exact Kp.refl _)
      | (with_reducible exact kp_to)
      | (with_reducible refine kp_cons ?_)
      | (with_reducible refine kp_arr ?_)
      | (with_reducible refine kp_app ?_)
      | ((with_reducible refine kp_skip ?_ ?_); rfl)
      | ((with_reducible refine t_cond fun A B => ?_); simp only [go_sem, geff_true, geff_false, con86_f, con86_c, hF, eV_def, entV_def, fnV_none, fnV_some]; first | (with_reducible refine A.h ?_) | (with_reducible refine B.h ?_) | (refine And.intro (fun hc => A.h ?_) (fun hc => B.h ?_)))
      | ((with_reducible refine t_geffS (fun hg => ?_) (fun hg => ?_)) <;> ((try simp only [Bool.not_eq_true', Bool.not_eq_false', Bool.and_eq_true, Bool.or_eq_false_iff] at hg); simp only [hg, go_sem, geff_true, geff_false, con86_f, con86_c, hF, eV_def, entV_def, fnV_none, fnV_some]))
      | simp only [thenQ_n, thenQ_r, thenQ_e, blockQ_n, blockQ_r, blockQ_e, scopeQ_n, scopeQ_r, scopeQ_e, Nat.reduceEqDiff, reduceIte]
      | (with_reducible refine And.intro ?_ ?_)
      | with_reducible intro vr)
    all_goals try (first | (with_reducible assumption) | (intros; (try simp only [Bool.and_eq_true, Bool.or_eq_true, Bool.or_eq_false_iff, Bool.not_eq_true', Bool.not_eq_false', decide_eq_true_eq, decide_eq_false_iff_not, beq_iff_eq, beq_eq_false_iff_ne, bne_iff_ne, bne_eq_false_iff_eq, ne_eq, inI64, List.length_append] at *) <;> omega))
    all_goals ((first | refine end_retE ?_ | refine end_normE ?_); simp only [fin, go_sem])
    all_goals refine gv_of (o := none) (p := some g2) slK_sl rfl rfl ?_
    all_goals rw [← hR]
    all_goals simp_all [wantS, n_chunk]
  · skip
    refine pc_ofR F6_ok mixed (fun _ => [0, 1, 2, 3, 8, 9, 10, 11, 12, 20, 21, 25]) (rs := [.cell 8 92, .tmp 9]) Try.func72 rfl (by kernel_rfl) (by kernel_rfl) (Nat.le_of_ble_eq_true rfl) ?_
    simp only [initF_cons, initF_nil, Nat.reduceAdd]
    refine t_name fun KF => ?_
    unfold F6
    repeat' (first
      | with_reducible refine t_seq fun K => ?_
      | with_reducible refine t_block ?_
      | with_reducible refine t_scope ?_
      | with_reducible refine t_label ?_
      | with_reducible refine t_skip ?_
      | with_reducible refine t_exit ?_
      | with_reducible refine t_ret ?_
      | with_reducible refine t_k ?_
      | (with_reducible refine t_gF ?_)
      | ((first | with_reducible refine t_kE ?_ | with_reducible refine t_kD ?_ | with_reducible refine t_gS ?_ | with_reducible refine t_kL ?_ | (with_reducible refine t_kLE ?_ ?_; rotate_left) | with_reducible refine t_region fun K => ?_ | with_reducible refine t_draw (by kernel_rfl) fun K => ?_); simp only [go_sem, geff_true, geff_false, con86_f, con86_c, hF, eV_def, entV_def, fnV_none, fnV_some])
      | (with_reducible exact kp_nil)
      | (with_reducible exact Kp.refl _)
      | (with_reducible exact kp_to)
      | (with_reducible refine kp_cons ?_)
      | (with_reducible refine kp_arr ?_)
      | (with_reducible refine kp_app ?_)
      | ((with_reducible refine kp_skip ?_ ?_); rfl)
      | ((with_reducible refine t_cond fun A B => ?_); simp only [go_sem, geff_true, geff_false, con86_f, con86_c, hF, eV_def, entV_def, fnV_none, fnV_some]; first | (with_reducible refine A.h ?_) | (with_reducible refine B.h ?_) | (refine And.intro (fun hc => A.h ?_) (fun hc => B.h ?_)))
      | ((with_reducible refine t_geffS (fun hg => ?_) (fun hg => ?_)) <;> ((try simp only [Bool.not_eq_true', Bool.not_eq_false', Bool.and_eq_true, Bool.or_eq_false_iff] at hg); simp only [hg, go_sem, geff_true, geff_false, con86_f, con86_c, hF, eV_def, entV_def, fnV_none, fnV_some]))
      | simp only [thenQ_n, thenQ_r, thenQ_e, blockQ_n, blockQ_r, blockQ_e, scopeQ_n, scopeQ_r, scopeQ_e, Nat.reduceEqDiff, reduceIte]
      | (with_reducible refine And.intro ?_ ?_)
      | with_reducible intro vr)
    all_goals try (first | (with_reducible assumption) | (intros; (try simp only [Bool.and_eq_true, Bool.or_eq_true, Bool.or_eq_false_iff, Bool.not_eq_true', Bool.not_eq_false', decide_eq_true_eq, decide_eq_false_iff_not, beq_iff_eq, beq_eq_false_iff_ne, bne_iff_ne, bne_eq_false_iff_eq, ne_eq, inI64, List.length_append] at *) <;> omega))
    all_goals ((first | refine end_retE ?_ | refine end_normE ?_); simp only [fin, go_sem])
    all_goals refine gv_of (o := some g1) (p := none) slK_sl rfl rfl ?_
    all_goals rw [← hR]
    all_goals simp_all [wantS, n_chunk]
  · skip
    refine pc_ofR F6_ok mixed (fun _ => [0, 1, 2, 3, 8, 9, 10, 11, 12, 20, 21, 25]) (rs := [.cell 8 92, .tmp 9]) Try.func72 rfl (by kernel_rfl) (by kernel_rfl) (Nat.le_of_ble_eq_true rfl) ?_
    simp only [initF_cons, initF_nil, Nat.reduceAdd]
    refine t_name fun KF => ?_
    unfold F6
    repeat' (first
      | with_reducible refine t_seq fun K => ?_
      | with_reducible refine t_block ?_
      | with_reducible refine t_scope ?_
      | with_reducible refine t_label ?_
      | with_reducible refine t_skip ?_
      | with_reducible refine t_exit ?_
      | with_reducible refine t_ret ?_
      | with_reducible refine t_k ?_
      | (with_reducible refine t_gF ?_)
      | ((first | with_reducible refine t_kE ?_ | with_reducible refine t_kD ?_ | with_reducible refine t_gS ?_ | with_reducible refine t_kL ?_ | (with_reducible refine t_kLE ?_ ?_; rotate_left) | with_reducible refine t_region fun K => ?_ | with_reducible refine t_draw (by kernel_rfl) fun K => ?_); simp only [go_sem, geff_true, geff_false, con86_f, con86_c, hF, eV_def, entV_def, fnV_none, fnV_some])
      | (with_reducible exact kp_nil)
      | (with_reducible exact Kp.refl _)
      | (with_reducible exact kp_to)
      | (with_reducible refine kp_cons ?_)
      | (with_reducible refine kp_arr ?_)
      | (with_reducible refine kp_app ?_)
      | ((with_reducible refine kp_skip ?_ ?_); rfl)
      | ((with_reducible refine t_cond fun A B => ?_); simp only [go_sem, geff_true, geff_false, con86_f, con86_c, hF, eV_def, entV_def, fnV_none, fnV_some]; first | (with_reducible refine A.h ?_) | (with_reducible refine B.h ?_) | (refine And.intro (fun hc => A.h ?_) (fun hc => B.h ?_)))
      | ((with_reducible refine t_geffS (fun hg => ?_) (fun hg => ?_)) <;> ((try simp only [Bool.not_eq_true', Bool.not_eq_false', Bool.and_eq_true, Bool.or_eq_false_iff] at hg); simp only [hg, go_sem, geff_true, geff_false, con86_f, con86_c, hF, eV_def, entV_def, fnV_none, fnV_some]))
      | simp only [thenQ_n, thenQ_r, thenQ_e, blockQ_n, blockQ_r, blockQ_e, scopeQ_n, scopeQ_r, scopeQ_e, Nat.reduceEqDiff, reduceIte]
      | (with_reducible refine And.intro ?_ ?_)
      | with_reducible intro vr)
    all_goals try (first | (with_reducible assumption) | (intros; (try simp only [Bool.and_eq_true, Bool.or_eq_true, Bool.or_eq_false_iff, Bool.not_eq_true', Bool.not_eq_false', decide_eq_true_eq, decide_eq_false_iff_not, beq_iff_eq, beq_eq_false_iff_ne, bne_iff_ne, bne_eq_false_iff_eq, ne_eq, inI64, List.length_append] at *) <;> omega))
    all_goals ((first | refine end_retE ?_ | refine end_normE ?_); simp only [fin, go_sem])
    all_goals refine gv_of (o := some g1) (p := some g2) slK_sl rfl rfl ?_
    all_goals rw [← hR]
    all_goals simp_all [wantS, n_chunk]
noncomputable def con72 : PCon Try.prog where
  f := 72
  c := fun
    | [.lit (.string op), xns, .lit (.int .i64 num), .lit (.int .i64 n)] => match slK .i64 xns with | some ns => some (n ≤ 1000000, gV (givenS op ns.length num n)) | _ => none
    | _ => none
  ok := by
    intro args p r hc hp
    split at hc
    · split at hc
      · rename_i hns
        cases hc
        exact PC.weak (given_pc hp) ⟨LeA.refl _, slK_le hns, LeA.refl _, LeA.refl _, trivial⟩
      · cases hc
    · cases hc
  fk := fk72
theorem con72_f : con72.f = 72 := rfl
theorem con72_c {op : ByteArray} {xns : AV} {num : Int} {n : Int} : con72.c [.lit (.string op), xns, .lit (.int .i64 num), .lit (.int .i64 n)] = match slK .i64 xns with | some ns => some (n ≤ 1000000, gV (givenS op ns.length num n)) | _ => none := rfl
end Go.Proofs.Ytjlcbojpiieafaa

/- Places of elements; ranks; dimensions of results. -/
namespace Go.Proofs.Ytjlcbojpiieafaa
open Go Go.Fw

def fromS (g : Nat) (k : Int) (d x : List Int) : Int :=
  match g with
  | 104 => 0
  | 107 => x.getD 0 0
  | 109 => x.getD 0 0 + k
  | 111 => d.getD 0 0 - 1 - x.getD 0 0
  | 114 => x.getD 1 0 * d.getD 1 0 + x.getD 0 0
  | 116 => x.getD 0 0 * d.getD 1 0 + x.getD 0 0
  | 118 => x.getD 0 0 + x.getD 1 0
  | 120 => x.getD 0 0 * k + x.getD 1 0
  | _ => 0
def fromP (g : Nat) (d x : List Int) : Prop :=
  match g with
  | 107 | 109 => 0 < x.length
  | 111 => 0 < x.length ∧ 0 < d.length
  | 114 => 1 < x.length ∧ 1 < d.length
  | 116 => 0 < x.length ∧ 1 < d.length
  | 118 | 120 => 1 < x.length
  | _ => True
def liBd (d : List Int) : Prop := ∀ x ∈ d, 0 ≤ x ∧ x ≤ 4096
theorem liBd_get {d : List Int} (h : liBd d) (j : Nat) : 0 ≤ d.getD j 0 ∧ d.getD j 0 ≤ 4096 := by
  by_cases h2 : j < d.length
  · have : d.getD j 0 ∈ d := by rw [List.getD_eq_getElem?_getD, List.getElem?_eq_getElem h2]; exact List.getElem_mem h2
    exact h _ this
  · have : d.getD j 0 = 0 := by rw [List.getD_eq_getElem?_getD, List.getElem?_eq_none (by omega)]; rfl
    omega
theorem mulBd {a b : Int} (h : 0 ≤ a ∧ a ≤ 4096) (h' : 0 ≤ b ∧ b ≤ 4096) : 0 ≤ a * b ∧ a * b ≤ 16777216 := by
  have h1 := Int.mul_nonneg h.1 h'.1
  have h2 : a * b ≤ 4096 * 4096 := Int.mul_le_mul h.2 h'.2 h'.1 (by omega)
  omega
set_option maxHeartbeats 2000000 in
theorem from_pc {g : FuncId} (hg : g ∈ [104, 107, 109, 111, 114, 116, 118, 120]) {k : Int} {d x : List Int} (hp : fromP g d x) (hd : liBd d) (hx : liBd x) (hk : 0 ≤ k ∧ k ≤ 4096) :
    PC Try.prog g [.lit (.int .i64 k), .sl false 1 (ints .i64 d), .sl false 1 (ints .i64 x)] (.lit (.int .i64 (fromS g k d x))) := by
  have d0 := liBd_get hd 0
  have d1 := liBd_get hd 1
  have x0 := liBd_get hx 0
  have x1 := liBd_get hx 1
  have m1 := mulBd x1 d1
  have m2 := mulBd x0 d1
  have m3 := mulBd x0 hk
  simp only [List.mem_cons, List.not_mem_nil, or_false] at hg
  rcases hg with rfl | rfl | rfl | rfl | rfl | rfl | rfl | rfl <;> simp only [fromP] at hp
  · skip
    refine pc_ofR F1_ok mixed (fun _ => [6]) (rs := [.tmp 6]) Try.func104 rfl (by kernel_rfl) (by kernel_rfl) (Nat.le_of_ble_eq_true rfl) ?_
    simp only [initF_cons, initF_nil, Nat.reduceAdd]
    refine t_name fun KF => ?_
    unfold F1
    repeat' (first
     | (with_reducible first | refine t_seq fun K => ?_ | refine t_block ?_ | refine t_scope ?_ | refine t_label ?_ | refine t_skip ?_ | refine t_exit ?_ | refine t_ret ?_ | refine t_k ?_ | refine t_gF ?_ | exact kp_nil | exact Kp.refl _ | exact kp_to | refine kp_cons ?_ | refine kp_arr ?_ | refine kp_app ?_ | refine t_p ?_ | refine t_br (fun hc => ?_) fun hc => ?_)
     | ((with_reducible first | refine t_kE ?_ | refine t_kD ?_ | refine t_gS ?_ | refine t_kL ?_ | refine t_kLF ?_ ?_ | refine t_region fun K => ?_ | refine t_cond fun A B => ?_ | refine t_draw (by kernel_rfl) fun K => ?_); simp only [go_sem, geff])
     | ((with_reducible refine kp_skip ?_ ?_); rfl) | simp only [thenQ, blockQ, scopeQ, Nat.reduceEqDiff, reduceIte] | (with_reducible first | refine And.intro ?_ ?_ | intro vr))
    all_goals try (first | (with_reducible assumption) | (intros; (try simp only [Bool.and_eq_true, Bool.or_eq_true, Bool.or_eq_false_iff, Bool.not_eq_true', Bool.not_eq_false', decide_eq_true_eq, decide_eq_false_iff_not, beq_iff_eq, beq_eq_false_iff_ne, bne_iff_ne, bne_eq_false_iff_eq, ne_eq, inI64, List.length_append] at *) <;> omega))
    all_goals ((first | refine end_retE ?_ | refine end_normE ?_); simp only [fin, go_sem])
    all_goals exact LeA.refl _
  · skip
    refine pc_ofR F1_ok mixed (fun _ => [2, 6]) (rs := [.tmp 6]) Try.func107 rfl (by kernel_rfl) (by kernel_rfl) (Nat.le_of_ble_eq_true rfl) ?_
    simp only [initF_cons, initF_nil, Nat.reduceAdd]
    refine t_name fun KF => ?_
    unfold F1
    repeat' (first
     | (with_reducible first | refine t_seq fun K => ?_ | refine t_block ?_ | refine t_scope ?_ | refine t_label ?_ | refine t_skip ?_ | refine t_exit ?_ | refine t_ret ?_ | refine t_k ?_ | refine t_gF ?_ | exact kp_nil | exact Kp.refl _ | exact kp_to | refine kp_cons ?_ | refine kp_arr ?_ | refine kp_app ?_ | refine t_p ?_ | refine t_br (fun hc => ?_) fun hc => ?_)
     | ((with_reducible first | refine t_kE ?_ | refine t_kD ?_ | refine t_gS ?_ | refine t_kL ?_ | refine t_kLF ?_ ?_ | refine t_region fun K => ?_ | refine t_cond fun A B => ?_ | refine t_draw (by kernel_rfl) fun K => ?_); simp only [go_sem, geff])
     | ((with_reducible refine kp_skip ?_ ?_); rfl) | simp only [thenQ, blockQ, scopeQ, Nat.reduceEqDiff, reduceIte] | (with_reducible first | refine And.intro ?_ ?_ | intro vr))
    all_goals try (first | (with_reducible assumption) | (intros; (try simp only [Bool.and_eq_true, Bool.or_eq_true, Bool.or_eq_false_iff, Bool.not_eq_true', Bool.not_eq_false', decide_eq_true_eq, decide_eq_false_iff_not, beq_iff_eq, beq_eq_false_iff_ne, bne_iff_ne, bne_eq_false_iff_eq, ne_eq, inI64, List.length_append] at *) <;> omega))
    all_goals ((first | refine end_retE ?_ | refine end_normE ?_); simp only [fin, go_sem])
    all_goals exact LeA.refl _
  · skip
    refine pc_ofR F1_ok mixed (fun _ => [0, 2, 6]) (rs := [.tmp 6]) Try.func109 rfl (by kernel_rfl) (by kernel_rfl) (Nat.le_of_ble_eq_true rfl) ?_
    simp only [initF_cons, initF_nil, Nat.reduceAdd]
    refine t_name fun KF => ?_
    unfold F1
    repeat' (first
     | (with_reducible first | refine t_seq fun K => ?_ | refine t_block ?_ | refine t_scope ?_ | refine t_label ?_ | refine t_skip ?_ | refine t_exit ?_ | refine t_ret ?_ | refine t_k ?_ | refine t_gF ?_ | exact kp_nil | exact Kp.refl _ | exact kp_to | refine kp_cons ?_ | refine kp_arr ?_ | refine kp_app ?_ | refine t_p ?_ | refine t_br (fun hc => ?_) fun hc => ?_)
     | ((with_reducible first | refine t_kE ?_ | refine t_kD ?_ | refine t_gS ?_ | refine t_kL ?_ | refine t_kLF ?_ ?_ | refine t_region fun K => ?_ | refine t_cond fun A B => ?_ | refine t_draw (by kernel_rfl) fun K => ?_); simp only [go_sem, geff])
     | ((with_reducible refine kp_skip ?_ ?_); rfl) | simp only [thenQ, blockQ, scopeQ, Nat.reduceEqDiff, reduceIte] | (with_reducible first | refine And.intro ?_ ?_ | intro vr))
    all_goals try (first | (with_reducible assumption) | (intros; (try simp only [Bool.and_eq_true, Bool.or_eq_true, Bool.or_eq_false_iff, Bool.not_eq_true', Bool.not_eq_false', decide_eq_true_eq, decide_eq_false_iff_not, beq_iff_eq, beq_eq_false_iff_ne, bne_iff_ne, bne_eq_false_iff_eq, ne_eq, inI64, List.length_append] at *) <;> omega))
    all_goals ((first | refine end_retE ?_ | refine end_normE ?_); simp only [fin, go_sem])
    all_goals exact LeA.refl _
  · skip
    refine pc_ofR F1_ok mixed (fun _ => [1, 2, 6]) (rs := [.tmp 6]) Try.func111 rfl (by kernel_rfl) (by kernel_rfl) (Nat.le_of_ble_eq_true rfl) ?_
    simp only [initF_cons, initF_nil, Nat.reduceAdd]
    refine t_name fun KF => ?_
    unfold F1
    repeat' (first
     | (with_reducible first | refine t_seq fun K => ?_ | refine t_block ?_ | refine t_scope ?_ | refine t_label ?_ | refine t_skip ?_ | refine t_exit ?_ | refine t_ret ?_ | refine t_k ?_ | refine t_gF ?_ | exact kp_nil | exact Kp.refl _ | exact kp_to | refine kp_cons ?_ | refine kp_arr ?_ | refine kp_app ?_ | refine t_p ?_ | refine t_br (fun hc => ?_) fun hc => ?_)
     | ((with_reducible first | refine t_kE ?_ | refine t_kD ?_ | refine t_gS ?_ | refine t_kL ?_ | refine t_kLF ?_ ?_ | refine t_region fun K => ?_ | refine t_cond fun A B => ?_ | refine t_draw (by kernel_rfl) fun K => ?_); simp only [go_sem, geff])
     | ((with_reducible refine kp_skip ?_ ?_); rfl) | simp only [thenQ, blockQ, scopeQ, Nat.reduceEqDiff, reduceIte] | (with_reducible first | refine And.intro ?_ ?_ | intro vr))
    all_goals try (first | (with_reducible assumption) | (intros; (try simp only [Bool.and_eq_true, Bool.or_eq_true, Bool.or_eq_false_iff, Bool.not_eq_true', Bool.not_eq_false', decide_eq_true_eq, decide_eq_false_iff_not, beq_iff_eq, beq_eq_false_iff_ne, bne_iff_ne, bne_eq_false_iff_eq, ne_eq, inI64, List.length_append] at *) <;> omega))
    all_goals ((first | refine end_retE ?_ | refine end_normE ?_); simp only [fin, go_sem])
    all_goals exact LeA.refl _
  · skip
    refine pc_ofR F1_ok mixed (fun _ => [1, 2, 6]) (rs := [.tmp 6]) Try.func114 rfl (by kernel_rfl) (by kernel_rfl) (Nat.le_of_ble_eq_true rfl) ?_
    simp only [initF_cons, initF_nil, Nat.reduceAdd]
    refine t_name fun KF => ?_
    unfold F1
    repeat' (first
     | (with_reducible first | refine t_seq fun K => ?_ | refine t_block ?_ | refine t_scope ?_ | refine t_label ?_ | refine t_skip ?_ | refine t_exit ?_ | refine t_ret ?_ | refine t_k ?_ | refine t_gF ?_ | exact kp_nil | exact Kp.refl _ | exact kp_to | refine kp_cons ?_ | refine kp_arr ?_ | refine kp_app ?_ | refine t_p ?_ | refine t_br (fun hc => ?_) fun hc => ?_)
     | ((with_reducible first | refine t_kE ?_ | refine t_kD ?_ | refine t_gS ?_ | refine t_kL ?_ | refine t_kLF ?_ ?_ | refine t_region fun K => ?_ | refine t_cond fun A B => ?_ | refine t_draw (by kernel_rfl) fun K => ?_); simp only [go_sem, geff])
     | ((with_reducible refine kp_skip ?_ ?_); rfl) | simp only [thenQ, blockQ, scopeQ, Nat.reduceEqDiff, reduceIte] | (with_reducible first | refine And.intro ?_ ?_ | intro vr))
    all_goals try (first | (with_reducible assumption) | (intros; (try simp only [Bool.and_eq_true, Bool.or_eq_true, Bool.or_eq_false_iff, Bool.not_eq_true', Bool.not_eq_false', decide_eq_true_eq, decide_eq_false_iff_not, beq_iff_eq, beq_eq_false_iff_ne, bne_iff_ne, bne_eq_false_iff_eq, ne_eq, inI64, List.length_append] at *) <;> omega))
    all_goals ((first | refine end_retE ?_ | refine end_normE ?_); simp only [fin, go_sem])
    all_goals exact LeA.refl _
  · skip
    refine pc_ofR F1_ok mixed (fun _ => [1, 2, 6]) (rs := [.tmp 6]) Try.func116 rfl (by kernel_rfl) (by kernel_rfl) (Nat.le_of_ble_eq_true rfl) ?_
    simp only [initF_cons, initF_nil, Nat.reduceAdd]
    refine t_name fun KF => ?_
    unfold F1
    repeat' (first
     | (with_reducible first | refine t_seq fun K => ?_ | refine t_block ?_ | refine t_scope ?_ | refine t_label ?_ | refine t_skip ?_ | refine t_exit ?_ | refine t_ret ?_ | refine t_k ?_ | refine t_gF ?_ | exact kp_nil | exact Kp.refl _ | exact kp_to | refine kp_cons ?_ | refine kp_arr ?_ | refine kp_app ?_ | refine t_p ?_ | refine t_br (fun hc => ?_) fun hc => ?_)
     | ((with_reducible first | refine t_kE ?_ | refine t_kD ?_ | refine t_gS ?_ | refine t_kL ?_ | refine t_kLF ?_ ?_ | refine t_region fun K => ?_ | refine t_cond fun A B => ?_ | refine t_draw (by kernel_rfl) fun K => ?_); simp only [go_sem, geff])
     | ((with_reducible refine kp_skip ?_ ?_); rfl) | simp only [thenQ, blockQ, scopeQ, Nat.reduceEqDiff, reduceIte] | (with_reducible first | refine And.intro ?_ ?_ | intro vr))
    all_goals try (first | (with_reducible assumption) | (intros; (try simp only [Bool.and_eq_true, Bool.or_eq_true, Bool.or_eq_false_iff, Bool.not_eq_true', Bool.not_eq_false', decide_eq_true_eq, decide_eq_false_iff_not, beq_iff_eq, beq_eq_false_iff_ne, bne_iff_ne, bne_eq_false_iff_eq, ne_eq, inI64, List.length_append] at *) <;> omega))
    all_goals ((first | refine end_retE ?_ | refine end_normE ?_); simp only [fin, go_sem])
    all_goals exact LeA.refl _
  · skip
    refine pc_ofR F1_ok mixed (fun _ => [2, 6]) (rs := [.tmp 6]) Try.func118 rfl (by kernel_rfl) (by kernel_rfl) (Nat.le_of_ble_eq_true rfl) ?_
    simp only [initF_cons, initF_nil, Nat.reduceAdd]
    refine t_name fun KF => ?_
    unfold F1
    repeat' (first
     | (with_reducible first | refine t_seq fun K => ?_ | refine t_block ?_ | refine t_scope ?_ | refine t_label ?_ | refine t_skip ?_ | refine t_exit ?_ | refine t_ret ?_ | refine t_k ?_ | refine t_gF ?_ | exact kp_nil | exact Kp.refl _ | exact kp_to | refine kp_cons ?_ | refine kp_arr ?_ | refine kp_app ?_ | refine t_p ?_ | refine t_br (fun hc => ?_) fun hc => ?_)
     | ((with_reducible first | refine t_kE ?_ | refine t_kD ?_ | refine t_gS ?_ | refine t_kL ?_ | refine t_kLF ?_ ?_ | refine t_region fun K => ?_ | refine t_cond fun A B => ?_ | refine t_draw (by kernel_rfl) fun K => ?_); simp only [go_sem, geff])
     | ((with_reducible refine kp_skip ?_ ?_); rfl) | simp only [thenQ, blockQ, scopeQ, Nat.reduceEqDiff, reduceIte] | (with_reducible first | refine And.intro ?_ ?_ | intro vr))
    all_goals try (first | (with_reducible assumption) | (intros; (try simp only [Bool.and_eq_true, Bool.or_eq_true, Bool.or_eq_false_iff, Bool.not_eq_true', Bool.not_eq_false', decide_eq_true_eq, decide_eq_false_iff_not, beq_iff_eq, beq_eq_false_iff_ne, bne_iff_ne, bne_eq_false_iff_eq, ne_eq, inI64, List.length_append] at *) <;> omega))
    all_goals ((first | refine end_retE ?_ | refine end_normE ?_); simp only [fin, go_sem])
    all_goals exact LeA.refl _
  · skip
    refine pc_ofR F1_ok mixed (fun _ => [0, 2, 6]) (rs := [.tmp 6]) Try.func120 rfl (by kernel_rfl) (by kernel_rfl) (Nat.le_of_ble_eq_true rfl) ?_
    simp only [initF_cons, initF_nil, Nat.reduceAdd]
    refine t_name fun KF => ?_
    unfold F1
    repeat' (first
     | (with_reducible first | refine t_seq fun K => ?_ | refine t_block ?_ | refine t_scope ?_ | refine t_label ?_ | refine t_skip ?_ | refine t_exit ?_ | refine t_ret ?_ | refine t_k ?_ | refine t_gF ?_ | exact kp_nil | exact Kp.refl _ | exact kp_to | refine kp_cons ?_ | refine kp_arr ?_ | refine kp_app ?_ | refine t_p ?_ | refine t_br (fun hc => ?_) fun hc => ?_)
     | ((with_reducible first | refine t_kE ?_ | refine t_kD ?_ | refine t_gS ?_ | refine t_kL ?_ | refine t_kLF ?_ ?_ | refine t_region fun K => ?_ | refine t_cond fun A B => ?_ | refine t_draw (by kernel_rfl) fun K => ?_); simp only [go_sem, geff])
     | ((with_reducible refine kp_skip ?_ ?_); rfl) | simp only [thenQ, blockQ, scopeQ, Nat.reduceEqDiff, reduceIte] | (with_reducible first | refine And.intro ?_ ?_ | intro vr))
    all_goals try (first | (with_reducible assumption) | (intros; (try simp only [Bool.and_eq_true, Bool.or_eq_true, Bool.or_eq_false_iff, Bool.not_eq_true', Bool.not_eq_false', decide_eq_true_eq, decide_eq_false_iff_not, beq_iff_eq, beq_eq_false_iff_ne, bne_iff_ne, bne_eq_false_iff_eq, ne_eq, inI64, List.length_append] at *) <;> omega))
    all_goals ((first | refine end_retE ?_ | refine end_normE ?_); simp only [fin, go_sem])
    all_goals exact LeA.refl _
theorem size_pc2 {ns : List Int} {num : Int} : PC Try.prog 75 [.sl false 1 (ints .i64 ns), .lit (.int .i64 num)] (.lit (.int .i64 (if ns = [] then num else ns.getD 0 0))) := by
  rcases ns with _ | ⟨a, t⟩
  · skip
    refine pc_ofR F1_ok mixed (fun _ => [0, 1, 4, 7]) (rs := [.tmp 4]) Try.func75 rfl (by kernel_rfl) (by kernel_rfl) (Nat.le_of_ble_eq_true rfl) ?_
    simp only [initF_cons, initF_nil, Nat.reduceAdd]
    refine t_name fun KF => ?_
    unfold F1
    repeat' (first
     | (with_reducible first | refine t_seq fun K => ?_ | refine t_block ?_ | refine t_scope ?_ | refine t_label ?_ | refine t_skip ?_ | refine t_exit ?_ | refine t_ret ?_ | refine t_k ?_ | refine t_gF ?_ | exact kp_nil | exact Kp.refl _ | exact kp_to | refine kp_cons ?_ | refine kp_arr ?_ | refine kp_app ?_ | refine t_p ?_ | refine t_br (fun hc => ?_) fun hc => ?_)
     | ((with_reducible first | refine t_kE ?_ | refine t_kD ?_ | refine t_gS ?_ | refine t_kL ?_ | refine t_kLF ?_ ?_ | refine t_region fun K => ?_ | refine t_cond fun A B => ?_ | refine t_draw (by kernel_rfl) fun K => ?_); simp only [go_sem, geff])
     | ((with_reducible refine kp_skip ?_ ?_); rfl) | simp only [thenQ, blockQ, scopeQ, Nat.reduceEqDiff, reduceIte] | (with_reducible first | refine And.intro ?_ ?_ | intro vr))
    all_goals try (first | (with_reducible assumption) | (intros; (try simp only [Bool.and_eq_true, Bool.or_eq_true, Bool.or_eq_false_iff, Bool.not_eq_true', Bool.not_eq_false', decide_eq_true_eq, decide_eq_false_iff_not, beq_iff_eq, beq_eq_false_iff_ne, bne_iff_ne, bne_eq_false_iff_eq, ne_eq, inI64, List.length_append] at *) <;> omega))
    all_goals ((first | refine end_retE ?_ | refine end_normE ?_); simp only [fin, go_sem])
    all_goals exact LeA.refl _
  · have h : decide (((a :: t).length : Int) > 0) = true := decide_eq_true (by simp only [List.length_cons]; omega)
    refine pc_ofR F1_ok mixed (fun _ => [0, 1, 4, 7]) (rs := [.tmp 4]) Try.func75 rfl (by kernel_rfl) (by kernel_rfl) (Nat.le_of_ble_eq_true rfl) ?_
    simp only [initF_cons, initF_nil, Nat.reduceAdd]
    refine t_name fun KF => ?_
    unfold F1
    repeat' (first
     | (with_reducible first | refine t_seq fun K => ?_ | refine t_block ?_ | refine t_scope ?_ | refine t_label ?_ | refine t_skip ?_ | refine t_exit ?_ | refine t_ret ?_ | refine t_k ?_ | refine t_gF ?_ | exact kp_nil | exact Kp.refl _ | exact kp_to | refine kp_cons ?_ | refine kp_arr ?_ | refine kp_app ?_ | refine t_p ?_ | refine t_br (fun hc => ?_) fun hc => ?_)
     | ((with_reducible first | refine t_kE ?_ | refine t_kD ?_ | refine t_gS ?_ | refine t_kL ?_ | refine t_kLF ?_ ?_ | refine t_region fun K => ?_ | refine t_cond fun A B => ?_ | refine t_draw (by kernel_rfl) fun K => ?_); simp only [go_sem, geff, h])
     | ((with_reducible refine kp_skip ?_ ?_); rfl) | simp only [thenQ, blockQ, scopeQ, Nat.reduceEqDiff, reduceIte] | (with_reducible first | refine And.intro ?_ ?_ | intro vr))
    all_goals try (first | (with_reducible assumption) | (intros; (try simp only [Bool.and_eq_true, Bool.or_eq_true, Bool.or_eq_false_iff, Bool.not_eq_true', Bool.not_eq_false', decide_eq_true_eq, decide_eq_false_iff_not, beq_iff_eq, beq_eq_false_iff_ne, bne_iff_ne, bne_eq_false_iff_eq, ne_eq, inI64, List.length_append] at *) <;> omega))
    all_goals ((first | refine end_retE ?_ | refine end_normE ?_); simp only [fin, go_sem])
    all_goals exact LeA.refl _
noncomputable def con75 : PCon Try.prog where
  f := 75
  c := fun
    | [xns, .lit (.int .i64 num)] => match slK .i64 xns with | some ns => some (True, .lit (.int .i64 (if ns = [] then num else ns.getD 0 0))) | _ => none
    | _ => none
  ok := by
    intro args p r hc hp
    split at hc
    · split at hc
      · rename_i hns
        cases hc
        exact PC.weak size_pc2 ⟨slK_le hns, LeA.refl _, trivial⟩
      · cases hc
    · cases hc
  fk := fk75
theorem con75_f : con75.f = 75 := rfl
theorem con75_c {xns : AV} {num : Int} : con75.c [xns, .lit (.int .i64 num)] = match slK .i64 xns with | some ns => some (True, .lit (.int .i64 (if ns = [] then num else ns.getD 0 0))) | _ => none := rfl
/-- Ranks with a boolean. -/
def rkV (r : List Int × Bool) : AV := .tup [.sl false 1 (ints .i64 r.1), .lit (.bool r.2)]
theorem rkV_def {r : List Int × Bool} : rkV r = .tup [.sl false 1 (ints .i64 r.1), .lit (.bool r.2)] := rfl
theorem rk_of {x : AV} {n : Bool} {l : List Int} {r : List Int × Bool} (h : slK .i64 x = some l) (e : r = (l, n)) : LeA (.tup [x, .lit (.bool n)]) (rkV r) := by
  subst e; exact LeA.tup ⟨slK_le h, LeA.refl _, trivial⟩
def ranksI (op : ByteArray) (n : Int) : List Int × Bool := if (findS op n).2 = false ∨ ((findS op n).1.ranks.length : Int) ≠ n then ([], false) else ((findS op n).1.ranks, true)
set_option maxHeartbeats 2000000 in
theorem ranks_pc {op : ByteArray} {n : Int} (hn : n ≤ 1000000) : PC Try.prog 50 [.lit (.string op), .lit (.int .i64 n)] (rkV (ranksI op n)) := by
  generalize hR : ranksI op n = R
  unfold ranksI at hR
  generalize hF : findS op n = r at hR
  obtain ⟨⟨s, b, rk, o, p⟩, ok⟩ := r
  rcases o with _ | g1 <;> rcases p with _ | g2
  all_goals simp only at hR
  · skip
    refine pc_ofR F6_ok mixed (fun _ => [0, 1, 4, 5, 6, 7, 22]) (rs := [.tmp 4, .tmp 5]) Try.func50 rfl (by kernel_rfl) (by kernel_rfl) (Nat.le_of_ble_eq_true rfl) ?_
    simp only [initF_cons, initF_nil, Nat.reduceAdd]
    refine t_name fun KF => ?_
    unfold F6
    repeat' (first
      | with_reducible refine t_seq fun K => ?_
      | with_reducible refine t_block ?_
      | with_reducible refine t_scope ?_
      | with_reducible refine t_label ?_
      | with_reducible refine t_skip ?_
      | with_reducible refine t_exit ?_
      | with_reducible refine t_ret ?_
      | with_reducible refine t_k ?_
      | (with_reducible refine t_gF ?_)
      | ((first | with_reducible refine t_kE ?_ | with_reducible refine t_kD ?_ | with_reducible refine t_gS ?_ | with_reducible refine t_kL ?_ | (with_reducible refine t_kLE ?_ ?_; rotate_left) | with_reducible refine t_region fun K => ?_ | with_reducible refine t_draw (by kernel_rfl) fun K => ?_); simp only [go_sem, geff_true, geff_false, con86_f, con86_c, hF, eV_def, entV_def, fnV_none, fnV_some])
      | (with_reducible exact kp_nil)
      | (with_reducible exact Kp.refl _)
      | (with_reducible exact kp_to)
      | (with_reducible refine kp_cons ?_)
      | (with_reducible refine kp_arr ?_)
      | (with_reducible refine kp_app ?_)
      | ((with_reducible refine kp_skip ?_ ?_); rfl)
      | ((with_reducible refine t_cond fun A B => ?_); simp only [go_sem, geff_true, geff_false, con86_f, con86_c, hF, eV_def, entV_def, fnV_none, fnV_some]; first | (with_reducible refine A.h ?_) | (with_reducible refine B.h ?_) | (refine And.intro (fun hc => A.h ?_) (fun hc => B.h ?_)))
      | ((with_reducible refine t_geffS (fun hg => ?_) (fun hg => ?_)) <;> ((try simp only [Bool.not_eq_true', Bool.not_eq_false', Bool.and_eq_true, Bool.or_eq_false_iff] at hg); simp only [hg, go_sem, geff_true, geff_false, con86_f, con86_c, hF, eV_def, entV_def, fnV_none, fnV_some]))
      | simp only [thenQ_n, thenQ_r, thenQ_e, blockQ_n, blockQ_r, blockQ_e, scopeQ_n, scopeQ_r, scopeQ_e, Nat.reduceEqDiff, reduceIte]
      | (with_reducible refine And.intro ?_ ?_)
      | with_reducible intro vr)
    all_goals try (first | (with_reducible assumption) | (intros; (try simp only [Bool.and_eq_true, Bool.or_eq_true, Bool.or_eq_false_iff, Bool.not_eq_true', Bool.not_eq_false', decide_eq_true_eq, decide_eq_false_iff_not, beq_iff_eq, beq_eq_false_iff_ne, bne_iff_ne, bne_eq_false_iff_eq, ne_eq, inI64, List.length_append] at *) <;> omega))
    all_goals ((first | refine end_retE ?_ | refine end_normE ?_); simp only [fin, go_sem])
    all_goals refine rk_of (by first | exact slK_sl | rfl) ?_
    all_goals rw [← hR]
    all_goals simp_all
  · skip
    refine pc_ofR F6_ok mixed (fun _ => [0, 1, 4, 5, 6, 7, 22]) (rs := [.tmp 4, .tmp 5]) Try.func50 rfl (by kernel_rfl) (by kernel_rfl) (Nat.le_of_ble_eq_true rfl) ?_
    simp only [initF_cons, initF_nil, Nat.reduceAdd]
    refine t_name fun KF => ?_
    unfold F6
    repeat' (first
      | with_reducible refine t_seq fun K => ?_
      | with_reducible refine t_block ?_
      | with_reducible refine t_scope ?_
      | with_reducible refine t_label ?_
      | with_reducible refine t_skip ?_
      | with_reducible refine t_exit ?_
      | with_reducible refine t_ret ?_
      | with_reducible refine t_k ?_
      | (with_reducible refine t_gF ?_)
      | ((first | with_reducible refine t_kE ?_ | with_reducible refine t_kD ?_ | with_reducible refine t_gS ?_ | with_reducible refine t_kL ?_ | (with_reducible refine t_kLE ?_ ?_; rotate_left) | with_reducible refine t_region fun K => ?_ | with_reducible refine t_draw (by kernel_rfl) fun K => ?_); simp only [go_sem, geff_true, geff_false, con86_f, con86_c, hF, eV_def, entV_def, fnV_none, fnV_some])
      | (with_reducible exact kp_nil)
      | (with_reducible exact Kp.refl _)
      | (with_reducible exact kp_to)
      | (with_reducible refine kp_cons ?_)
      | (with_reducible refine kp_arr ?_)
      | (with_reducible refine kp_app ?_)
      | ((with_reducible refine kp_skip ?_ ?_); rfl)
      | ((with_reducible refine t_cond fun A B => ?_); simp only [go_sem, geff_true, geff_false, con86_f, con86_c, hF, eV_def, entV_def, fnV_none, fnV_some]; first | (with_reducible refine A.h ?_) | (with_reducible refine B.h ?_) | (refine And.intro (fun hc => A.h ?_) (fun hc => B.h ?_)))
      | ((with_reducible refine t_geffS (fun hg => ?_) (fun hg => ?_)) <;> ((try simp only [Bool.not_eq_true', Bool.not_eq_false', Bool.and_eq_true, Bool.or_eq_false_iff] at hg); simp only [hg, go_sem, geff_true, geff_false, con86_f, con86_c, hF, eV_def, entV_def, fnV_none, fnV_some]))
      | simp only [thenQ_n, thenQ_r, thenQ_e, blockQ_n, blockQ_r, blockQ_e, scopeQ_n, scopeQ_r, scopeQ_e, Nat.reduceEqDiff, reduceIte]
      | (with_reducible refine And.intro ?_ ?_)
      | with_reducible intro vr)
    all_goals try (first | (with_reducible assumption) | (intros; (try simp only [Bool.and_eq_true, Bool.or_eq_true, Bool.or_eq_false_iff, Bool.not_eq_true', Bool.not_eq_false', decide_eq_true_eq, decide_eq_false_iff_not, beq_iff_eq, beq_eq_false_iff_ne, bne_iff_ne, bne_eq_false_iff_eq, ne_eq, inI64, List.length_append] at *) <;> omega))
    all_goals ((first | refine end_retE ?_ | refine end_normE ?_); simp only [fin, go_sem])
    all_goals refine rk_of (by first | exact slK_sl | rfl) ?_
    all_goals rw [← hR]
    all_goals simp_all
  · skip
    refine pc_ofR F6_ok mixed (fun _ => [0, 1, 4, 5, 6, 7, 22]) (rs := [.tmp 4, .tmp 5]) Try.func50 rfl (by kernel_rfl) (by kernel_rfl) (Nat.le_of_ble_eq_true rfl) ?_
    simp only [initF_cons, initF_nil, Nat.reduceAdd]
    refine t_name fun KF => ?_
    unfold F6
    repeat' (first
      | with_reducible refine t_seq fun K => ?_
      | with_reducible refine t_block ?_
      | with_reducible refine t_scope ?_
      | with_reducible refine t_label ?_
      | with_reducible refine t_skip ?_
      | with_reducible refine t_exit ?_
      | with_reducible refine t_ret ?_
      | with_reducible refine t_k ?_
      | (with_reducible refine t_gF ?_)
      | ((first | with_reducible refine t_kE ?_ | with_reducible refine t_kD ?_ | with_reducible refine t_gS ?_ | with_reducible refine t_kL ?_ | (with_reducible refine t_kLE ?_ ?_; rotate_left) | with_reducible refine t_region fun K => ?_ | with_reducible refine t_draw (by kernel_rfl) fun K => ?_); simp only [go_sem, geff_true, geff_false, con86_f, con86_c, hF, eV_def, entV_def, fnV_none, fnV_some])
      | (with_reducible exact kp_nil)
      | (with_reducible exact Kp.refl _)
      | (with_reducible exact kp_to)
      | (with_reducible refine kp_cons ?_)
      | (with_reducible refine kp_arr ?_)
      | (with_reducible refine kp_app ?_)
      | ((with_reducible refine kp_skip ?_ ?_); rfl)
      | ((with_reducible refine t_cond fun A B => ?_); simp only [go_sem, geff_true, geff_false, con86_f, con86_c, hF, eV_def, entV_def, fnV_none, fnV_some]; first | (with_reducible refine A.h ?_) | (with_reducible refine B.h ?_) | (refine And.intro (fun hc => A.h ?_) (fun hc => B.h ?_)))
      | ((with_reducible refine t_geffS (fun hg => ?_) (fun hg => ?_)) <;> ((try simp only [Bool.not_eq_true', Bool.not_eq_false', Bool.and_eq_true, Bool.or_eq_false_iff] at hg); simp only [hg, go_sem, geff_true, geff_false, con86_f, con86_c, hF, eV_def, entV_def, fnV_none, fnV_some]))
      | simp only [thenQ_n, thenQ_r, thenQ_e, blockQ_n, blockQ_r, blockQ_e, scopeQ_n, scopeQ_r, scopeQ_e, Nat.reduceEqDiff, reduceIte]
      | (with_reducible refine And.intro ?_ ?_)
      | with_reducible intro vr)
    all_goals try (first | (with_reducible assumption) | (intros; (try simp only [Bool.and_eq_true, Bool.or_eq_true, Bool.or_eq_false_iff, Bool.not_eq_true', Bool.not_eq_false', decide_eq_true_eq, decide_eq_false_iff_not, beq_iff_eq, beq_eq_false_iff_ne, bne_iff_ne, bne_eq_false_iff_eq, ne_eq, inI64, List.length_append] at *) <;> omega))
    all_goals ((first | refine end_retE ?_ | refine end_normE ?_); simp only [fin, go_sem])
    all_goals refine rk_of (by first | exact slK_sl | rfl) ?_
    all_goals rw [← hR]
    all_goals simp_all
  · skip
    refine pc_ofR F6_ok mixed (fun _ => [0, 1, 4, 5, 6, 7, 22]) (rs := [.tmp 4, .tmp 5]) Try.func50 rfl (by kernel_rfl) (by kernel_rfl) (Nat.le_of_ble_eq_true rfl) ?_
    simp only [initF_cons, initF_nil, Nat.reduceAdd]
    refine t_name fun KF => ?_
    unfold F6
    repeat' (first
      | with_reducible refine t_seq fun K => ?_
      | with_reducible refine t_block ?_
      | with_reducible refine t_scope ?_
      | with_reducible refine t_label ?_
      | with_reducible refine t_skip ?_
      | with_reducible refine t_exit ?_
      | with_reducible refine t_ret ?_
      | with_reducible refine t_k ?_
      | (with_reducible refine t_gF ?_)
      | ((first | with_reducible refine t_kE ?_ | with_reducible refine t_kD ?_ | with_reducible refine t_gS ?_ | with_reducible refine t_kL ?_ | (with_reducible refine t_kLE ?_ ?_; rotate_left) | with_reducible refine t_region fun K => ?_ | with_reducible refine t_draw (by kernel_rfl) fun K => ?_); simp only [go_sem, geff_true, geff_false, con86_f, con86_c, hF, eV_def, entV_def, fnV_none, fnV_some])
      | (with_reducible exact kp_nil)
      | (with_reducible exact Kp.refl _)
      | (with_reducible exact kp_to)
      | (with_reducible refine kp_cons ?_)
      | (with_reducible refine kp_arr ?_)
      | (with_reducible refine kp_app ?_)
      | ((with_reducible refine kp_skip ?_ ?_); rfl)
      | ((with_reducible refine t_cond fun A B => ?_); simp only [go_sem, geff_true, geff_false, con86_f, con86_c, hF, eV_def, entV_def, fnV_none, fnV_some]; first | (with_reducible refine A.h ?_) | (with_reducible refine B.h ?_) | (refine And.intro (fun hc => A.h ?_) (fun hc => B.h ?_)))
      | ((with_reducible refine t_geffS (fun hg => ?_) (fun hg => ?_)) <;> ((try simp only [Bool.not_eq_true', Bool.not_eq_false', Bool.and_eq_true, Bool.or_eq_false_iff] at hg); simp only [hg, go_sem, geff_true, geff_false, con86_f, con86_c, hF, eV_def, entV_def, fnV_none, fnV_some]))
      | simp only [thenQ_n, thenQ_r, thenQ_e, blockQ_n, blockQ_r, blockQ_e, scopeQ_n, scopeQ_r, scopeQ_e, Nat.reduceEqDiff, reduceIte]
      | (with_reducible refine And.intro ?_ ?_)
      | with_reducible intro vr)
    all_goals try (first | (with_reducible assumption) | (intros; (try simp only [Bool.and_eq_true, Bool.or_eq_true, Bool.or_eq_false_iff, Bool.not_eq_true', Bool.not_eq_false', decide_eq_true_eq, decide_eq_false_iff_not, beq_iff_eq, beq_eq_false_iff_ne, bne_iff_ne, bne_eq_false_iff_eq, ne_eq, inI64, List.length_append] at *) <;> omega))
    all_goals ((first | refine end_retE ?_ | refine end_normE ?_); simp only [fin, go_sem])
    all_goals refine rk_of (by first | exact slK_sl | rfl) ?_
    all_goals rw [← hR]
    all_goals simp_all
noncomputable def con50 : PCon Try.prog where
  f := 50
  c := fun
    | [.lit (.string op), .lit (.int .i64 n)] => some (n ≤ 1000000, rkV (ranksI op n))
    | _ => none
  ok := by
    intro args p r hc hp
    split at hc
    · cases hc; exact (ranks_pc hp)
    · cases hc
  fk := fk50
theorem con50_f : con50.f = 50 := rfl
theorem con50_c {op : ByteArray} {n : Int} : con50.c [.lit (.string op), .lit (.int .i64 n)] = some (n ≤ 1000000, rkV (ranksI op n)) := rfl
def ranksR (op : ByteArray) (n : Int) : List Int × Bool :=
  if eqS op n_pack = true then (if 1 ≤ n ∧ n ≤ 4096 then (List.replicate n.toNat 0, true) else ([], false))
  else match findG ents op with
  | some e => if (e.ranks.length : Int) ≠ n then ([], false) else (e.ranks, true)
  | none => ([], false)
end Go.Proofs.Ytjlcbojpiieafaa

/- The dimensions of a result (structure). -/
namespace Go.Proofs.Ytjlcbojpiieafaa
open Go Go.Fw

theorem size_any {l : List Int} : PC Try.prog 65 [.sl false 1 (ints .i64 l)] (szV (sizeS l)) := by
  by_cases h : l.length ≤ 1000000
  · exact size_pc h
  · have h1 : decide ((l.length : Int) > 6) = true := decide_eq_true (by omega)
    have h2 : sizeS l = (0, 13) := by unfold sizeS; rw [if_pos (by omega)]
    rw [h2]
    refine pc_ofR F1_ok mixed (fun _ => [0, 2, 3, 5, 6, 8, 11, 12, 13, 14, 15, 23, 26, 27, 28, 29, 30, 37]) (rs := [.tmp 2, .tmp 3]) Try.func65 rfl (by kernel_rfl) (by kernel_rfl) (Nat.le_of_ble_eq_true rfl) ?_
    simp only [initF_cons, initF_nil, Nat.reduceAdd]
    refine t_name fun KF => ?_
    unfold F1
    repeat' (first
     | (with_reducible first | refine t_seq fun K => ?_ | refine t_block ?_ | refine t_scope ?_ | refine t_label ?_ | refine t_skip ?_ | refine t_exit ?_ | refine t_ret ?_ | refine t_k ?_ | refine t_gF ?_ | exact kp_nil | exact Kp.refl _ | exact kp_to | refine kp_cons ?_ | refine kp_arr ?_ | refine kp_app ?_ | refine t_p ?_ | refine t_br (fun hc => ?_) fun hc => ?_)
     | ((with_reducible first | refine t_kE ?_ | refine t_kD ?_ | refine t_gS ?_ | refine t_kL ?_ | refine t_kLF ?_ ?_ | refine t_region fun K => ?_ | refine t_cond fun A B => ?_ | refine t_draw (by kernel_rfl) fun K => ?_); simp only [go_sem, geff, h1])
     | ((with_reducible refine kp_skip ?_ ?_); rfl) | simp only [thenQ, blockQ, scopeQ, Nat.reduceEqDiff, reduceIte] | (with_reducible first | refine And.intro ?_ ?_ | intro vr))
    all_goals ((first | refine end_retE ?_ | refine end_normE ?_); simp only [fin, go_sem])
    exact LeA.refl _
theorem rsize_any {l : List Int} : PC Try.prog 30 [.sl false 1 (ints .i64 l)] (szV (sizeS l)) := by
  by_cases h : l.length ≤ 1000000
  · exact rsize_pc h
  · have h1 : decide ((l.length : Int) > 6) = true := decide_eq_true (by omega)
    have h2 : sizeS l = (0, 13) := by unfold sizeS; rw [if_pos (by omega)]
    rw [h2]
    refine pc_ofR F1_ok mixed (fun _ => [0, 2, 3, 4, 5, 6, 7, 10, 14, 28, 37, 41, 51]) (rs := [.tmp 2, .tmp 3]) Try.func30 rfl (by kernel_rfl) (by kernel_rfl) (Nat.le_of_ble_eq_true rfl) ?_
    simp only [initF_cons, initF_nil, Nat.reduceAdd]
    refine t_name fun KF => ?_
    unfold F1
    repeat' (first
     | (with_reducible first | refine t_seq fun K => ?_ | refine t_block ?_ | refine t_scope ?_ | refine t_label ?_ | refine t_skip ?_ | refine t_exit ?_ | refine t_ret ?_ | refine t_k ?_ | refine t_gF ?_ | exact kp_nil | exact Kp.refl _ | exact kp_to | refine kp_cons ?_ | refine kp_arr ?_ | refine kp_app ?_ | refine t_p ?_ | refine t_br (fun hc => ?_) fun hc => ?_)
     | ((with_reducible first | refine t_kE ?_ | refine t_kD ?_ | refine t_gS ?_ | refine t_kL ?_ | refine t_kLF ?_ ?_ | refine t_region fun K => ?_ | refine t_cond fun A B => ?_ | refine t_draw (by kernel_rfl) fun K => ?_); simp only [go_sem, geff, h1])
     | ((with_reducible refine kp_skip ?_ ?_); rfl) | simp only [thenQ, blockQ, scopeQ, Nat.reduceEqDiff, reduceIte] | (with_reducible first | refine And.intro ?_ ?_ | intro vr))
    all_goals ((first | refine end_retE ?_ | refine end_normE ?_); simp only [fin, go_sem])
    exact LeA.refl _
noncomputable def con65b : PCon Try.prog := { con65 with
  c := fun
    | [x] => match slK .i64 x with | some l => some (True, szV (sizeS l)) | _ => none
    | _ => none
  ok := by
    intro args p r hc hp
    split at hc
    · split at hc
      · rename_i hl
        cases hc
        exact PC.weak size_any ⟨slK_le hl, trivial⟩
      · cases hc
    · cases hc }
theorem con65b_f : con65b.f = 65 := rfl
theorem con65b_c {x : AV} : con65b.c [x] = match slK .i64 x with | some l => some (True, szV (sizeS l)) | _ => none := rfl
noncomputable def con30b : PCon Try.prog := { con30 with
  c := fun
    | [x] => match slK .i64 x with | some l => some (True, szV (sizeS l)) | _ => none
    | _ => none
  ok := by
    intro args p r hc hp
    split at hc
    · split at hc
      · rename_i hl
        cases hc
        exact PC.weak rsize_any ⟨slK_le hl, trivial⟩
      · cases hc
    · cases hc }
theorem con30b_f : con30b.f = 30 := rfl
theorem con30b_c {x : AV} : con30b.c [x] = match slK .i64 x with | some l => some (True, szV (sizeS l)) | _ => none := rfl

def isD (g : Nat) : Bool := [103, 105, 108, 110, 112, 113, 115, 117, 119, 121, 101].contains g
def famD (f : FuncId) (args : List AV) : VR := if isD f = true then (match args with
  | [.lit (.int .i64 k), x] => match ilsOf x with
    | some ds => some (ds.length ≤ 1000000 ∧ dimsP f ds ∧ ilBd ds, dV (dimsS f k ds))
    | none => none
  | _ => none) else none
theorem famD_c {g : Nat} {k : Int} {x : AV} (h : isD g = true) : famD g [.lit (.int .i64 k), x] = match ilsOf x with
    | some ds => some (ds.length ≤ 1000000 ∧ dimsP g ds ∧ ilBd ds, dV (dimsS g k ds))
    | none => none := by unfold famD; rw [if_pos h]
theorem famD_no {g : Nat} {args : List AV} (h : isD g = false) : famD g args = none := by unfold famD; rw [h]; rfl
theorem famD_ok : ∀ f args p r, famD f args = some (p, r) → p → fok Try.prog f = true ∧ PC Try.prog f args r := by
  intro f args p r h hp
  unfold famD at h
  split at h
  · rename_i hf
    have hf' : f ∈ [103, 105, 108, 110, 112, 113, 115, 117, 119, 121, 101] := by simpa [isD] using hf
    split at h
    · split at h
      · rename_i hx
        cases h
        refine ⟨?_, PC.weak (dims_pc hf' hp.1 hp.2.1 hp.2.2) ⟨LeA.refl _, ilsOf_le hx, trivial⟩⟩
        simp only [List.mem_cons, List.not_mem_nil, or_false] at hf'
        rcases hf' with rfl | rfl | rfl | rfl | rfl | rfl | rfl | rfl | rfl | rfl | rfl
        · exact fk103
        · exact fk105
        · exact fk108
        · exact fk110
        · exact fk112
        · exact fk113
        · exact fk115
        · exact fk117
        · exact fk119
        · exact fk121
        · exact fk101
      · cases h
    · cases h
  · cases h
/-- Does a list of dimensions have other ranks? -/
def rkBad : List (List Int) → List Int → Bool
  | d :: ds, r :: rs => if (d.length : Int) ≠ r then true else rkBad ds rs
  | _, _ => false
def szErr : List (List Int) → Int
  | [] => 0
  | d :: ds => if (sizeS d).2 ≠ 0 then (sizeS d).2 else szErr ds
def sizeK (ns : List Int) (num : Int) : Int := if ns = [] then num else ns.getD 0 0
def dimsOf (e : Ent) (k : Int) (ds : List (List Int)) : List Int × Int :=
  if (dimsS (e.dims.getD 0) k ds).2 ≠ 0 then ([], (dimsS (e.dims.getD 0) k ds).2)
  else if (sizeS (dimsS (e.dims.getD 0) k ds).1).2 ≠ 0 then ([], (sizeS (dimsS (e.dims.getD 0) k ds).1).2)
  else ((dimsS (e.dims.getD 0) k ds).1, 0)
def dimsI (op : ByteArray) (ns : List Int) (num : Int) (ds : List (List Int)) : List Int × Int :=
  if (givenS op ns.length num ds.length).2 ≠ 0 then ([], (givenS op ns.length num ds.length).2)
  else if rkBad ds (givenS op ns.length num ds.length).1.ranks = true then ([], 13)
  else if szErr ds ≠ 0 then ([], szErr ds)
  else dimsOf (givenS op ns.length num ds.length).1 (sizeK ns num) ds
theorem findG_mem : ∀ {l : List Ent} {s : ByteArray} {e : Ent}, findG l s = some e → e ∈ l ∧ eqS e.op s = true
  | [], _, _, h => by cases h
  | a :: l, s, e, h => by
    unfold findG at h
    split at h
    · rename_i he; cases h; exact ⟨by simp, he⟩
    · exact ⟨by simp [(findG_mem h).1], (findG_mem h).2⟩
theorem given_ok {op : ByteArray} {ns num n : Int} {e : Ent} (h : givenS op ns num n = (e, 0)) : (e ∈ ents ∨ e = packE n) ∧ (e.ranks.length : Int) = n ∧ ns = wantS e ∧ (num = 0 ∨ eqS op n_chunk = true) ∧ eqS e.op op = true ∧ findS op n = (e, true) := by
  unfold givenS at h
  split at h
  · cases h
  rename_i h1
  split at h
  · cases h
  rename_i h2
  have he : (findS op n).1 = e := by injection h
  rw [he] at h2
  have h3 : findS op n = (e, true) := Prod.ext he (by simpa using h1)
  refine ⟨?_, by omega, by omega, ?_, ?_, h3⟩
  · unfold findS at h3
    split at h3
    · right; injection h3 with a _; exact a.symm
    · unfold foundS at h3
      split at h3
      · rename_i hg; injection h3 with a _; subst a; exact .inl (findG_mem hg).1
      · cases h3
  · by_cases hn : num = 0
    · exact .inl hn
    · right
      by_cases hc : eqS op n_chunk = true
      · exact hc
      · exact absurd (.inr (.inr ⟨hn, by simpa using hc⟩)) h2
  · unfold findS at h3
    split at h3
    · rename_i hp; injection h3 with a _; subst a; unfold packE; rw [eqS_iff.1 hp]; exact eqS_refl _
    · unfold foundS at h3
      split at h3
      · rename_i hg; injection h3 with a _; subst a; exact (findG_mem hg).2
      · cases h3
theorem dims_ok {e : Ent} {ds : List (List Int)} (he : e ∈ ents ∨ e = packE ds.length) (hl : (e.ranks.length : Int) = ds.length) (hr : rkBad ds e.ranks = false) : ∃ g, e.dims = some g ∧ isD g = true ∧ dimsP g ds := by
  rcases he with he | rfl
  · simp only [ents, List.mem_cons, List.not_mem_nil, or_false] at he
    rcases he with rfl | rfl | rfl | rfl | rfl | rfl | rfl | rfl | rfl | rfl | rfl | rfl <;> refine ⟨_, rfl, rfl, ?_⟩ <;> simp only [dimsP, List.length_cons, List.length_nil] at hl ⊢
    all_goals (first | trivial | (match ds, hl, hr with
      | [], hl, hr => simp at hl
      | [a], hl, hr => simp [rkBad] at hl hr ⊢ <;> omega
      | [a, b], hl, hr => simp [rkBad] at hl hr ⊢ <;> omega
      | [a, b, c], hl, hr => simp [rkBad] at hl hr ⊢ <;> omega
      | _ :: _ :: _ :: _ :: _, hl, hr => simp only [List.length_cons] at hl; omega))
  · exact ⟨101, rfl, rfl, trivial⟩
theorem ofSz {ds : List (List Int)} (h : szErr ds = 0) : ilBd ds := by
  induction ds with
  | nil => intro d hd; cases hd
  | cons a t ih =>
    unfold szErr at h
    split at h
    · rename_i hne; exact absurd h hne
    · rename_i hz
      intro d hd
      rcases List.mem_cons.1 hd with rfl | hd
      · exact (sizeS_ok (d := d) (n := (sizeS d).1) (Prod.ext rfl (by simpa using hz))).2.1
      · exact ih h d hd
end Go.Proofs.Ytjlcbojpiieafaa

/- The dimensions of a result: the walk. -/
namespace Go.Proofs.Ytjlcbojpiieafaa
open Go Go.Fw

theorem no65 : famD 65 = fun _ => none := by funext a; exact famD_no rfl
theorem no61 : famD 61 = fun _ => none := by funext a; exact famD_no rfl
theorem no72 : famD 72 = fun _ => none := by funext a; exact famD_no rfl
theorem no75 : famD 75 = fun _ => none := by funext a; exact famD_no rfl
noncomputable def F7 : Env := envM (P := Try.prog) famD jk2 zer (fun _ => false) (fun _ => false) [con65b, con61, con72, con75] []
theorem F7_ok : EnvOk Try.prog F7 := envMOk zer_ok famD_ok
theorem sizeK_def {ns : List Int} {num : Int} : (if ns = [] then num else ns.getD 0 0) = sizeK ns num := rfl
set_option maxRecDepth 20000 in
set_option maxHeartbeats 8000000 in
theorem dimsI_pc {op : ByteArray} {ns : List Int} {num : Int} {ds : List (List Int)} (hn : ds.length ≤ 1000000) : PC Try.prog 43 [.lit (.string op), .sl false 1 (ints .i64 ns), .lit (.int .i64 num), .sl false 1 (ils ds)] (dV (dimsI op ns num ds)) := by
  generalize hR : dimsI op ns num ds = R
  unfold dimsI at hR
  generalize hG : givenS op ns.length num ds.length = r at hR
  obtain ⟨e, er⟩ := r
  simp only at hR
  by_cases h0 : er = 0
  · subst h0
    rw [if_neg (by simp)] at hR
    obtain ⟨he, hl, -, -, -, -⟩ := given_ok hG
    have hdo := dims_ok he hl
    have hsz : (sizeS (dimsS (e.dims.getD 0) (sizeK ns num) ds).1).2 = 0 → (dimsS (e.dims.getD 0) (sizeK ns num) ds).1.length ≤ 1000000 := fun h => by
      have := (sizeS_ok (n := (sizeS (dimsS (e.dims.getD 0) (sizeK ns num) ds).1).1) (Prod.ext rfl h)).1
      omega
    obtain ⟨s, b, rk, o, p⟩ := e
    simp only at hl hdo hR
    unfold dimsOf at hR
    simp only at hR hsz
    rcases p with _ | g2
    · skip
      refine pc_ofR F7_ok mixed (fun _ => [0, 1, 2, 3, 8, 9, 10, 11, 12, 13, 15, 17, 18, 20, 31, 33, 34, 35, 36, 47, 49, 50, 51, 52, 61, 75, 83]) (rs := [.tmp 8, .tmp 9]) Try.func43 rfl (by kernel_rfl) (by kernel_rfl) (Nat.le_of_ble_eq_true rfl) ?_
      simp only [initF_cons, initF_nil, Nat.reduceAdd]
      refine t_name fun KF => ?_
      unfold F7
      repeat' (first
       | (with_reducible first | refine t_seq fun K => ?_ | refine t_block ?_ | refine t_scope ?_ | refine t_label ?_ | refine t_skip ?_ | refine t_exit ?_ | refine t_ret ?_ | refine t_k ?_ | refine t_gF ?_ | exact kp_nil | exact Kp.refl _ | exact kp_to | refine kp_cons ?_ | refine kp_arr ?_ | refine kp_app ?_ | refine t_p ?_ | refine t_br (fun hc => ?_) fun hc => ?_)
       | ((with_reducible first | refine t_kE ?_ | refine t_kD ?_ | refine t_gS ?_ | refine t_kL ?_ | refine t_kLF ?_ ?_ | refine t_region fun K => ?_ | refine t_cond fun A B => ?_ | refine t_draw (by kernel_rfl) fun K => ?_); simp only [go_sem, geff, con65b_f, con61_f, con72_f, con75_f, con65b_c, con61_c, con72_c, con75_c, no65, no61, no72, no75, ils_length, slK_sl, hG, gV_def, entV_def, szV_def, fnV_none, fnV_some, sizeK_def])
       | ((with_reducible refine kp_skip ?_ ?_); rfl) | simp only [thenQ, blockQ, scopeQ, Nat.reduceEqDiff, reduceIte] | (with_reducible first | refine And.intro ?_ ?_ | intro vr))
      all_goals try (first | (with_reducible assumption) | (intros; (try simp only [Bool.and_eq_true, Bool.or_eq_true, Bool.or_eq_false_iff, Bool.not_eq_true', Bool.not_eq_false', decide_eq_true_eq, decide_eq_false_iff_not, beq_iff_eq, beq_eq_false_iff_ne, bne_iff_ne, bne_eq_false_iff_eq, ne_eq, inI64, List.length_append] at *) <;> omega))
      refine t_loopF (ι := { i : Nat // i ≤ ds.length ∧ rkBad (ds.drop i) (rk.drop i) = rkBad ds rk }) (fun i => [(35, .lit (.int .i64 i.1))]) (fun i => [AObj.box 92 [.lit (.string s), .lit (.bool b), .sl false 1 (ints .i64 rk), fnV o, .lit .nilFunc]]) (fun i => ds.length - i.1) ⟨0, by omega, rfl⟩ ?_ ?_
      · simp only [updL_nil, updL_cons, delF_top, delF_upd, Nat.reduceEqDiff, reduceIte]
        refine Le.frameS (by first | rfl | (simp only [go_sem]; try rfl)) ?_
        repeat' (first | exact leF_top _ | exact (fun _ => LeR.refl _) | (with_reducible refine leF_sl ?_ ?_) | (refine leF_upd ?_ ?_))
        all_goals (first | exact LeR.top _ | exact LeR.refl _ | (refine LeR.of_eq ?_; (try simp only [go_sem]); try rfl) | ((try simp only [go_sem]); try rfl))
      rintro ⟨i, hi, hF⟩ K0
      rcases Nat.lt_or_ge i ds.length with hc | hc
      · rw [drop_getD [] hc, drop_getD 0 (show i < rk.length by omega), rkBad] at hF
        have g3 : decide ((i : Int) < (ds.length : Int)) = true := decide_eq_true (by omega)
        repeat' (first
         | (with_reducible first | refine t_seq fun K => ?_ | refine t_block ?_ | refine t_scope ?_ | refine t_label ?_ | refine t_skip ?_ | refine t_exit ?_ | refine t_ret ?_ | refine t_k ?_ | refine t_gF ?_ | exact kp_nil | exact Kp.refl _ | exact kp_to | refine kp_cons ?_ | refine kp_arr ?_ | refine kp_app ?_ | refine t_p ?_ | refine t_br (fun hc => ?_) fun hc => ?_)
         | ((with_reducible first | refine t_kE ?_ | refine t_kD ?_ | refine t_gS ?_ | refine t_kL ?_ | refine t_kLF ?_ ?_ | refine t_region fun K => ?_ | refine t_cond fun A B => ?_ | refine t_draw (by kernel_rfl) fun K => ?_); simp only [go_sem, geff, g3, Int.toNat_natCast, con65b_f, con61_f, con72_f, con75_f, con65b_c, con61_c, con72_c, con75_c, no65, no61, no72, no75, ils_length, slK_sl, hG, gV_def, entV_def, szV_def, fnV_none, fnV_some, sizeK_def])
         | ((with_reducible refine kp_skip ?_ ?_); rfl) | simp only [thenQ, blockQ, scopeQ, Nat.reduceEqDiff, reduceIte] | (with_reducible first | refine And.intro ?_ ?_ | intro vr))
        all_goals try (first | (with_reducible assumption) | (intros; (try simp only [Bool.and_eq_true, Bool.or_eq_true, Bool.or_eq_false_iff, Bool.not_eq_true', Bool.not_eq_false', decide_eq_true_eq, decide_eq_false_iff_not, beq_iff_eq, beq_eq_false_iff_ne, bne_iff_ne, bne_eq_false_iff_eq, ne_eq, inI64, List.length_append] at *) <;> omega))
        · skip
          all_goals ((first | refine end_retE ?_ | refine end_normE ?_); simp only [fin, go_sem])
          rw [if_pos (by simpa using hc)] at hF
          rw [if_pos hF.symm] at hR
          exact dv_of rfl hR.symm
        · skip
          refine ⟨⟨i + 1, by omega, by rw [← hF, if_neg (by simpa using hc)]⟩, by first | (simp only; omega) | omega, ?_⟩
          simp only [updL_nil, updL_cons, delF_top, delF_upd, Nat.reduceEqDiff, reduceIte]
          refine Le.frameS (by first | rfl | (simp only [go_sem]; try rfl)) ?_
          repeat' (first | exact leF_top _ | exact (fun _ => LeR.refl _) | (with_reducible refine leF_sl ?_ ?_) | (refine leF_upd ?_ ?_))
          all_goals (first | exact LeR.top _ | exact LeR.refl _ | (refine LeR.of_eq ?_; (try simp only [go_sem]); try rfl) | ((try simp only [go_sem]); try rfl))
      · have g3 : decide ((i : Int) < (ds.length : Int)) = false := decide_eq_false (by omega)
        rw [List.drop_eq_nil_of_le (by omega), rkBad] at hF
        · obtain ⟨g, rfl, hg, hdp⟩ := hdo hF.symm
          rw [if_neg (by rw [← hF]; simp)] at hR
          simp only [Option.getD_some] at hR hsz
          repeat' (first
           | (with_reducible first | refine t_seq fun K => ?_ | refine t_block ?_ | refine t_scope ?_ | refine t_label ?_ | refine t_skip ?_ | refine t_exit ?_ | refine t_ret ?_ | refine t_k ?_ | refine t_gF ?_ | exact kp_nil | exact Kp.refl _ | exact kp_to | refine kp_cons ?_ | refine kp_arr ?_ | refine kp_app ?_ | refine t_p ?_ | refine t_br (fun hc => ?_) fun hc => ?_)
           | ((with_reducible first | refine t_kE ?_ | refine t_kD ?_ | refine t_gS ?_ | refine t_kL ?_ | refine t_kLF ?_ ?_ | refine t_region fun K => ?_ | refine t_cond fun A B => ?_ | refine t_draw (by kernel_rfl) fun K => ?_); simp only [go_sem, geff, g3, Int.toNat_natCast, con65b_f, con61_f, con72_f, con75_f, con65b_c, con61_c, con72_c, con75_c, no65, no61, no72, no75, ils_length, slK_sl, hG, gV_def, entV_def, szV_def, fnV_none, fnV_some, sizeK_def])
           | ((with_reducible refine kp_skip ?_ ?_); rfl) | simp only [thenQ, blockQ, scopeQ, Nat.reduceEqDiff, reduceIte] | (with_reducible first | refine And.intro ?_ ?_ | intro vr))
          all_goals try (first | (with_reducible assumption) | (intros; (try simp only [Bool.and_eq_true, Bool.or_eq_true, Bool.or_eq_false_iff, Bool.not_eq_true', Bool.not_eq_false', decide_eq_true_eq, decide_eq_false_iff_not, beq_iff_eq, beq_eq_false_iff_ne, bne_iff_ne, bne_eq_false_iff_eq, ne_eq, inI64, List.length_append] at *) <;> omega))
          refine t_loopF (ι := { i : Nat // i ≤ ds.length ∧ szErr (ds.drop i) = szErr ds }) (fun i => [(51, .lit (.int .i64 i.1))]) (fun i => [AObj.box 92 [.lit (.string s), .lit (.bool b), .sl false 1 (ints .i64 rk), .fn (.func g) [] [], .lit .nilFunc]]) (fun i => ds.length - i.1) ⟨0, by omega, rfl⟩ ?_ ?_
          · simp only [updL_nil, updL_cons, delF_top, delF_upd, Nat.reduceEqDiff, reduceIte]
            refine Le.frameS (by first | rfl | (simp only [go_sem]; try rfl)) ?_
            repeat' (first | exact leF_top _ | exact (fun _ => LeR.refl _) | (with_reducible refine leF_sl ?_ ?_) | (refine leF_upd ?_ ?_))
            all_goals (first | exact LeR.top _ | exact LeR.refl _ | (refine LeR.of_eq ?_; (try simp only [go_sem]); try rfl) | ((try simp only [go_sem]); try rfl))
          rintro ⟨j, hj, hF2⟩ K1
          rcases Nat.lt_or_ge j ds.length with hc | hc
          · rw [drop_getD [] hc, szErr] at hF2
            have g4 : decide ((j : Int) < (ds.length : Int)) = true := decide_eq_true (by omega)
            repeat' (first
             | (with_reducible first | refine t_seq fun K => ?_ | refine t_block ?_ | refine t_scope ?_ | refine t_label ?_ | refine t_skip ?_ | refine t_exit ?_ | refine t_ret ?_ | refine t_k ?_ | refine t_gF ?_ | exact kp_nil | exact Kp.refl _ | exact kp_to | refine kp_cons ?_ | refine kp_arr ?_ | refine kp_app ?_ | refine t_p ?_ | refine t_br (fun hc => ?_) fun hc => ?_)
             | ((with_reducible first | refine t_kE ?_ | refine t_kD ?_ | refine t_gS ?_ | refine t_kL ?_ | refine t_kLF ?_ ?_ | refine t_region fun K => ?_ | refine t_cond fun A B => ?_ | refine t_draw (by kernel_rfl) fun K => ?_); simp only [go_sem, geff, g4, Int.toNat_natCast, con65b_f, con61_f, con72_f, con75_f, con65b_c, con61_c, con72_c, con75_c, no65, no61, no72, no75, ils_length, slK_sl, hG, gV_def, entV_def, szV_def, fnV_none, fnV_some, sizeK_def])
             | ((with_reducible refine kp_skip ?_ ?_); rfl) | simp only [thenQ, blockQ, scopeQ, Nat.reduceEqDiff, reduceIte] | (with_reducible first | refine And.intro ?_ ?_ | intro vr))
            all_goals try (first | (with_reducible assumption) | (intros; (try simp only [Bool.and_eq_true, Bool.or_eq_true, Bool.or_eq_false_iff, Bool.not_eq_true', Bool.not_eq_false', decide_eq_true_eq, decide_eq_false_iff_not, beq_iff_eq, beq_eq_false_iff_ne, bne_iff_ne, bne_eq_false_iff_eq, ne_eq, inI64, List.length_append] at *) <;> omega))
            · skip
              all_goals ((first | refine end_retE ?_ | refine end_normE ?_); simp only [fin, go_sem])
              rw [if_pos (by simpa using hc)] at hF2
              rw [if_pos (by rw [← hF2]; simpa using hc), ← hF2] at hR
              exact dv_of rfl hR.symm
            · skip
              refine ⟨⟨j + 1, by omega, by rw [← hF2, if_neg (by simpa using hc)]⟩, by first | (simp only; omega) | omega, ?_⟩
              simp only [updL_nil, updL_cons, delF_top, delF_upd, Nat.reduceEqDiff, reduceIte]
              refine Le.frameS (by first | rfl | (simp only [go_sem]; try rfl)) ?_
              repeat' (first | exact leF_top _ | exact (fun _ => LeR.refl _) | (with_reducible refine leF_sl ?_ ?_) | (refine leF_upd ?_ ?_))
              all_goals (first | exact LeR.top _ | exact LeR.refl _ | (refine LeR.of_eq ?_; (try simp only [go_sem]); try rfl) | ((try simp only [go_sem]); try rfl))
          · have g4 : decide ((j : Int) < (ds.length : Int)) = false := decide_eq_false (by omega)
            rw [List.drop_eq_nil_of_le (by omega), szErr] at hF2
            rw [if_neg (by rw [← hF2]; simp)] at hR
            have hbd := ofSz hF2.symm
            repeat' (first
             | (with_reducible first | refine t_seq fun K => ?_ | refine t_block ?_ | refine t_scope ?_ | refine t_label ?_ | refine t_skip ?_ | refine t_exit ?_ | refine t_ret ?_ | refine t_k ?_ | refine t_gF ?_ | exact kp_nil | exact Kp.refl _ | exact kp_to | refine kp_cons ?_ | refine kp_arr ?_ | refine kp_app ?_ | refine t_p ?_ | refine t_br (fun hc => ?_) fun hc => ?_)
             | ((with_reducible first | refine t_kE ?_ | refine t_kD ?_ | refine t_gS ?_ | refine t_kL ?_ | refine t_kLF ?_ ?_ | refine t_region fun K => ?_ | refine t_cond fun A B => ?_ | refine t_draw (by kernel_rfl) fun K => ?_); simp only [go_sem, geff, g4, Int.toNat_natCast, famD_c hg, ilsOf_sl, dV_def, con65b_f, con61_f, con72_f, con75_f, con65b_c, con61_c, con72_c, con75_c, no65, no61, no72, no75, ils_length, slK_sl, hG, gV_def, entV_def, szV_def, fnV_none, fnV_some, sizeK_def])
             | ((with_reducible refine kp_skip ?_ ?_); rfl) | simp only [thenQ, blockQ, scopeQ, Nat.reduceEqDiff, reduceIte] | (with_reducible first | refine And.intro ?_ ?_ | intro vr))
            all_goals try exact hdp
            all_goals try exact hbd
            all_goals try (exact hsz (by simpa using hc))
            all_goals try (first | (with_reducible assumption) | (intros; (try simp only [Bool.and_eq_true, Bool.or_eq_true, Bool.or_eq_false_iff, Bool.not_eq_true', Bool.not_eq_false', decide_eq_true_eq, decide_eq_false_iff_not, beq_iff_eq, beq_eq_false_iff_ne, bne_iff_ne, bne_eq_false_iff_eq, ne_eq, inI64, List.length_append] at *) <;> omega))
            all_goals ((first | refine end_retE ?_ | refine end_normE ?_); simp only [fin, go_sem])
            · rw [if_pos (by simpa using hc)] at hR
              exact dv_of (by first | exact slK_sl | rfl) hR.symm
            · rw [if_neg (by simp_all), if_pos (by simpa using hc)] at hR
              exact dv_of (by first | exact slK_sl | rfl) hR.symm
            · rw [if_neg (by simp_all), if_neg (by simpa using hc)] at hR
              exact dv_of (by first | exact slK_sl | rfl) hR.symm
        · intro _ _ _ _ h; cases h
    · skip
      refine pc_ofR F7_ok mixed (fun _ => [0, 1, 2, 3, 8, 9, 10, 11, 12, 13, 15, 17, 18, 20, 31, 33, 34, 35, 36, 47, 49, 50, 51, 52, 61, 75, 83]) (rs := [.tmp 8, .tmp 9]) Try.func43 rfl (by kernel_rfl) (by kernel_rfl) (Nat.le_of_ble_eq_true rfl) ?_
      simp only [initF_cons, initF_nil, Nat.reduceAdd]
      refine t_name fun KF => ?_
      unfold F7
      repeat' (first
       | (with_reducible first | refine t_seq fun K => ?_ | refine t_block ?_ | refine t_scope ?_ | refine t_label ?_ | refine t_skip ?_ | refine t_exit ?_ | refine t_ret ?_ | refine t_k ?_ | refine t_gF ?_ | exact kp_nil | exact Kp.refl _ | exact kp_to | refine kp_cons ?_ | refine kp_arr ?_ | refine kp_app ?_ | refine t_p ?_ | refine t_br (fun hc => ?_) fun hc => ?_)
       | ((with_reducible first | refine t_kE ?_ | refine t_kD ?_ | refine t_gS ?_ | refine t_kL ?_ | refine t_kLF ?_ ?_ | refine t_region fun K => ?_ | refine t_cond fun A B => ?_ | refine t_draw (by kernel_rfl) fun K => ?_); simp only [go_sem, geff, con65b_f, con61_f, con72_f, con75_f, con65b_c, con61_c, con72_c, con75_c, no65, no61, no72, no75, ils_length, slK_sl, hG, gV_def, entV_def, szV_def, fnV_none, fnV_some, sizeK_def])
       | ((with_reducible refine kp_skip ?_ ?_); rfl) | simp only [thenQ, blockQ, scopeQ, Nat.reduceEqDiff, reduceIte] | (with_reducible first | refine And.intro ?_ ?_ | intro vr))
      all_goals try (first | (with_reducible assumption) | (intros; (try simp only [Bool.and_eq_true, Bool.or_eq_true, Bool.or_eq_false_iff, Bool.not_eq_true', Bool.not_eq_false', decide_eq_true_eq, decide_eq_false_iff_not, beq_iff_eq, beq_eq_false_iff_ne, bne_iff_ne, bne_eq_false_iff_eq, ne_eq, inI64, List.length_append] at *) <;> omega))
      refine t_loopF (ι := { i : Nat // i ≤ ds.length ∧ rkBad (ds.drop i) (rk.drop i) = rkBad ds rk }) (fun i => [(35, .lit (.int .i64 i.1))]) (fun i => [AObj.box 92 [.lit (.string s), .lit (.bool b), .sl false 1 (ints .i64 rk), fnV o, .fn (.func g2) [] []]]) (fun i => ds.length - i.1) ⟨0, by omega, rfl⟩ ?_ ?_
      · simp only [updL_nil, updL_cons, delF_top, delF_upd, Nat.reduceEqDiff, reduceIte]
        refine Le.frameS (by first | rfl | (simp only [go_sem]; try rfl)) ?_
        repeat' (first | exact leF_top _ | exact (fun _ => LeR.refl _) | (with_reducible refine leF_sl ?_ ?_) | (refine leF_upd ?_ ?_))
        all_goals (first | exact LeR.top _ | exact LeR.refl _ | (refine LeR.of_eq ?_; (try simp only [go_sem]); try rfl) | ((try simp only [go_sem]); try rfl))
      rintro ⟨i, hi, hF⟩ K0
      rcases Nat.lt_or_ge i ds.length with hc | hc
      · rw [drop_getD [] hc, drop_getD 0 (show i < rk.length by omega), rkBad] at hF
        have g3 : decide ((i : Int) < (ds.length : Int)) = true := decide_eq_true (by omega)
        repeat' (first
         | (with_reducible first | refine t_seq fun K => ?_ | refine t_block ?_ | refine t_scope ?_ | refine t_label ?_ | refine t_skip ?_ | refine t_exit ?_ | refine t_ret ?_ | refine t_k ?_ | refine t_gF ?_ | exact kp_nil | exact Kp.refl _ | exact kp_to | refine kp_cons ?_ | refine kp_arr ?_ | refine kp_app ?_ | refine t_p ?_ | refine t_br (fun hc => ?_) fun hc => ?_)
         | ((with_reducible first | refine t_kE ?_ | refine t_kD ?_ | refine t_gS ?_ | refine t_kL ?_ | refine t_kLF ?_ ?_ | refine t_region fun K => ?_ | refine t_cond fun A B => ?_ | refine t_draw (by kernel_rfl) fun K => ?_); simp only [go_sem, geff, g3, Int.toNat_natCast, con65b_f, con61_f, con72_f, con75_f, con65b_c, con61_c, con72_c, con75_c, no65, no61, no72, no75, ils_length, slK_sl, hG, gV_def, entV_def, szV_def, fnV_none, fnV_some, sizeK_def])
         | ((with_reducible refine kp_skip ?_ ?_); rfl) | simp only [thenQ, blockQ, scopeQ, Nat.reduceEqDiff, reduceIte] | (with_reducible first | refine And.intro ?_ ?_ | intro vr))
        all_goals try (first | (with_reducible assumption) | (intros; (try simp only [Bool.and_eq_true, Bool.or_eq_true, Bool.or_eq_false_iff, Bool.not_eq_true', Bool.not_eq_false', decide_eq_true_eq, decide_eq_false_iff_not, beq_iff_eq, beq_eq_false_iff_ne, bne_iff_ne, bne_eq_false_iff_eq, ne_eq, inI64, List.length_append] at *) <;> omega))
        · skip
          all_goals ((first | refine end_retE ?_ | refine end_normE ?_); simp only [fin, go_sem])
          rw [if_pos (by simpa using hc)] at hF
          rw [if_pos hF.symm] at hR
          exact dv_of rfl hR.symm
        · skip
          refine ⟨⟨i + 1, by omega, by rw [← hF, if_neg (by simpa using hc)]⟩, by first | (simp only; omega) | omega, ?_⟩
          simp only [updL_nil, updL_cons, delF_top, delF_upd, Nat.reduceEqDiff, reduceIte]
          refine Le.frameS (by first | rfl | (simp only [go_sem]; try rfl)) ?_
          repeat' (first | exact leF_top _ | exact (fun _ => LeR.refl _) | (with_reducible refine leF_sl ?_ ?_) | (refine leF_upd ?_ ?_))
          all_goals (first | exact LeR.top _ | exact LeR.refl _ | (refine LeR.of_eq ?_; (try simp only [go_sem]); try rfl) | ((try simp only [go_sem]); try rfl))
      · have g3 : decide ((i : Int) < (ds.length : Int)) = false := decide_eq_false (by omega)
        rw [List.drop_eq_nil_of_le (by omega), rkBad] at hF
        · obtain ⟨g, rfl, hg, hdp⟩ := hdo hF.symm
          rw [if_neg (by rw [← hF]; simp)] at hR
          simp only [Option.getD_some] at hR hsz
          repeat' (first
           | (with_reducible first | refine t_seq fun K => ?_ | refine t_block ?_ | refine t_scope ?_ | refine t_label ?_ | refine t_skip ?_ | refine t_exit ?_ | refine t_ret ?_ | refine t_k ?_ | refine t_gF ?_ | exact kp_nil | exact Kp.refl _ | exact kp_to | refine kp_cons ?_ | refine kp_arr ?_ | refine kp_app ?_ | refine t_p ?_ | refine t_br (fun hc => ?_) fun hc => ?_)
           | ((with_reducible first | refine t_kE ?_ | refine t_kD ?_ | refine t_gS ?_ | refine t_kL ?_ | refine t_kLF ?_ ?_ | refine t_region fun K => ?_ | refine t_cond fun A B => ?_ | refine t_draw (by kernel_rfl) fun K => ?_); simp only [go_sem, geff, g3, Int.toNat_natCast, con65b_f, con61_f, con72_f, con75_f, con65b_c, con61_c, con72_c, con75_c, no65, no61, no72, no75, ils_length, slK_sl, hG, gV_def, entV_def, szV_def, fnV_none, fnV_some, sizeK_def])
           | ((with_reducible refine kp_skip ?_ ?_); rfl) | simp only [thenQ, blockQ, scopeQ, Nat.reduceEqDiff, reduceIte] | (with_reducible first | refine And.intro ?_ ?_ | intro vr))
          all_goals try (first | (with_reducible assumption) | (intros; (try simp only [Bool.and_eq_true, Bool.or_eq_true, Bool.or_eq_false_iff, Bool.not_eq_true', Bool.not_eq_false', decide_eq_true_eq, decide_eq_false_iff_not, beq_iff_eq, beq_eq_false_iff_ne, bne_iff_ne, bne_eq_false_iff_eq, ne_eq, inI64, List.length_append] at *) <;> omega))
          refine t_loopF (ι := { i : Nat // i ≤ ds.length ∧ szErr (ds.drop i) = szErr ds }) (fun i => [(51, .lit (.int .i64 i.1))]) (fun i => [AObj.box 92 [.lit (.string s), .lit (.bool b), .sl false 1 (ints .i64 rk), .fn (.func g) [] [], .fn (.func g2) [] []]]) (fun i => ds.length - i.1) ⟨0, by omega, rfl⟩ ?_ ?_
          · simp only [updL_nil, updL_cons, delF_top, delF_upd, Nat.reduceEqDiff, reduceIte]
            refine Le.frameS (by first | rfl | (simp only [go_sem]; try rfl)) ?_
            repeat' (first | exact leF_top _ | exact (fun _ => LeR.refl _) | (with_reducible refine leF_sl ?_ ?_) | (refine leF_upd ?_ ?_))
            all_goals (first | exact LeR.top _ | exact LeR.refl _ | (refine LeR.of_eq ?_; (try simp only [go_sem]); try rfl) | ((try simp only [go_sem]); try rfl))
          rintro ⟨j, hj, hF2⟩ K1
          rcases Nat.lt_or_ge j ds.length with hc | hc
          · rw [drop_getD [] hc, szErr] at hF2
            have g4 : decide ((j : Int) < (ds.length : Int)) = true := decide_eq_true (by omega)
            repeat' (first
             | (with_reducible first | refine t_seq fun K => ?_ | refine t_block ?_ | refine t_scope ?_ | refine t_label ?_ | refine t_skip ?_ | refine t_exit ?_ | refine t_ret ?_ | refine t_k ?_ | refine t_gF ?_ | exact kp_nil | exact Kp.refl _ | exact kp_to | refine kp_cons ?_ | refine kp_arr ?_ | refine kp_app ?_ | refine t_p ?_ | refine t_br (fun hc => ?_) fun hc => ?_)
             | ((with_reducible first | refine t_kE ?_ | refine t_kD ?_ | refine t_gS ?_ | refine t_kL ?_ | refine t_kLF ?_ ?_ | refine t_region fun K => ?_ | refine t_cond fun A B => ?_ | refine t_draw (by kernel_rfl) fun K => ?_); simp only [go_sem, geff, g4, Int.toNat_natCast, con65b_f, con61_f, con72_f, con75_f, con65b_c, con61_c, con72_c, con75_c, no65, no61, no72, no75, ils_length, slK_sl, hG, gV_def, entV_def, szV_def, fnV_none, fnV_some, sizeK_def])
             | ((with_reducible refine kp_skip ?_ ?_); rfl) | simp only [thenQ, blockQ, scopeQ, Nat.reduceEqDiff, reduceIte] | (with_reducible first | refine And.intro ?_ ?_ | intro vr))
            all_goals try (first | (with_reducible assumption) | (intros; (try simp only [Bool.and_eq_true, Bool.or_eq_true, Bool.or_eq_false_iff, Bool.not_eq_true', Bool.not_eq_false', decide_eq_true_eq, decide_eq_false_iff_not, beq_iff_eq, beq_eq_false_iff_ne, bne_iff_ne, bne_eq_false_iff_eq, ne_eq, inI64, List.length_append] at *) <;> omega))
            · skip
              all_goals ((first | refine end_retE ?_ | refine end_normE ?_); simp only [fin, go_sem])
              rw [if_pos (by simpa using hc)] at hF2
              rw [if_pos (by rw [← hF2]; simpa using hc), ← hF2] at hR
              exact dv_of rfl hR.symm
            · skip
              refine ⟨⟨j + 1, by omega, by rw [← hF2, if_neg (by simpa using hc)]⟩, by first | (simp only; omega) | omega, ?_⟩
              simp only [updL_nil, updL_cons, delF_top, delF_upd, Nat.reduceEqDiff, reduceIte]
              refine Le.frameS (by first | rfl | (simp only [go_sem]; try rfl)) ?_
              repeat' (first | exact leF_top _ | exact (fun _ => LeR.refl _) | (with_reducible refine leF_sl ?_ ?_) | (refine leF_upd ?_ ?_))
              all_goals (first | exact LeR.top _ | exact LeR.refl _ | (refine LeR.of_eq ?_; (try simp only [go_sem]); try rfl) | ((try simp only [go_sem]); try rfl))
          · have g4 : decide ((j : Int) < (ds.length : Int)) = false := decide_eq_false (by omega)
            rw [List.drop_eq_nil_of_le (by omega), szErr] at hF2
            rw [if_neg (by rw [← hF2]; simp)] at hR
            have hbd := ofSz hF2.symm
            repeat' (first
             | (with_reducible first | refine t_seq fun K => ?_ | refine t_block ?_ | refine t_scope ?_ | refine t_label ?_ | refine t_skip ?_ | refine t_exit ?_ | refine t_ret ?_ | refine t_k ?_ | refine t_gF ?_ | exact kp_nil | exact Kp.refl _ | exact kp_to | refine kp_cons ?_ | refine kp_arr ?_ | refine kp_app ?_ | refine t_p ?_ | refine t_br (fun hc => ?_) fun hc => ?_)
             | ((with_reducible first | refine t_kE ?_ | refine t_kD ?_ | refine t_gS ?_ | refine t_kL ?_ | refine t_kLF ?_ ?_ | refine t_region fun K => ?_ | refine t_cond fun A B => ?_ | refine t_draw (by kernel_rfl) fun K => ?_); simp only [go_sem, geff, g4, Int.toNat_natCast, famD_c hg, ilsOf_sl, dV_def, con65b_f, con61_f, con72_f, con75_f, con65b_c, con61_c, con72_c, con75_c, no65, no61, no72, no75, ils_length, slK_sl, hG, gV_def, entV_def, szV_def, fnV_none, fnV_some, sizeK_def])
             | ((with_reducible refine kp_skip ?_ ?_); rfl) | simp only [thenQ, blockQ, scopeQ, Nat.reduceEqDiff, reduceIte] | (with_reducible first | refine And.intro ?_ ?_ | intro vr))
            all_goals try exact hdp
            all_goals try exact hbd
            all_goals try (exact hsz (by simpa using hc))
            all_goals try (first | (with_reducible assumption) | (intros; (try simp only [Bool.and_eq_true, Bool.or_eq_true, Bool.or_eq_false_iff, Bool.not_eq_true', Bool.not_eq_false', decide_eq_true_eq, decide_eq_false_iff_not, beq_iff_eq, beq_eq_false_iff_ne, bne_iff_ne, bne_eq_false_iff_eq, ne_eq, inI64, List.length_append] at *) <;> omega))
            all_goals ((first | refine end_retE ?_ | refine end_normE ?_); simp only [fin, go_sem])
            · rw [if_pos (by simpa using hc)] at hR
              exact dv_of (by first | exact slK_sl | rfl) hR.symm
            · rw [if_neg (by simp_all), if_pos (by simpa using hc)] at hR
              exact dv_of (by first | exact slK_sl | rfl) hR.symm
            · rw [if_neg (by simp_all), if_neg (by simpa using hc)] at hR
              exact dv_of (by first | exact slK_sl | rfl) hR.symm
        · intro _ _ _ _ h; cases h
  · rw [if_pos h0] at hR
    obtain ⟨s, b, rk, o, p⟩ := e
    have h0' : (er != 0) = true := by simpa using h0
    refine pc_ofR F7_ok mixed (fun _ => [0, 1, 2, 3, 8, 9, 10, 11, 12, 13, 15, 17, 18, 20, 31, 33, 34, 35, 36, 47, 49, 50, 51, 52, 61, 75, 83]) (rs := [.tmp 8, .tmp 9]) Try.func43 rfl (by kernel_rfl) (by kernel_rfl) (Nat.le_of_ble_eq_true rfl) ?_
    simp only [initF_cons, initF_nil, Nat.reduceAdd]
    refine t_name fun KF => ?_
    unfold F7
    repeat' (first
     | (with_reducible first | refine t_seq fun K => ?_ | refine t_block ?_ | refine t_scope ?_ | refine t_label ?_ | refine t_skip ?_ | refine t_exit ?_ | refine t_ret ?_ | refine t_k ?_ | refine t_gF ?_ | exact kp_nil | exact Kp.refl _ | exact kp_to | refine kp_cons ?_ | refine kp_arr ?_ | refine kp_app ?_ | refine t_p ?_ | refine t_br (fun hc => ?_) fun hc => ?_)
     | ((with_reducible first | refine t_kE ?_ | refine t_kD ?_ | refine t_gS ?_ | refine t_kL ?_ | refine t_kLF ?_ ?_ | refine t_region fun K => ?_ | refine t_cond fun A B => ?_ | refine t_draw (by kernel_rfl) fun K => ?_); simp only [go_sem, geff, h0', con65b_f, con61_f, con72_f, con75_f, con65b_c, con61_c, con72_c, con75_c, no65, no61, no72, no75, ils_length, slK_sl, hG, gV_def, entV_def, szV_def, fnV_none, fnV_some, sizeK_def])
     | ((with_reducible refine kp_skip ?_ ?_); rfl) | simp only [thenQ, blockQ, scopeQ, Nat.reduceEqDiff, reduceIte] | (with_reducible first | refine And.intro ?_ ?_ | intro vr))
    all_goals try (first | (with_reducible assumption) | (intros; (try simp only [Bool.and_eq_true, Bool.or_eq_true, Bool.or_eq_false_iff, Bool.not_eq_true', Bool.not_eq_false', decide_eq_true_eq, decide_eq_false_iff_not, beq_iff_eq, beq_eq_false_iff_ne, bne_iff_ne, bne_eq_false_iff_eq, ne_eq, inI64, List.length_append] at *) <;> omega))
    all_goals ((first | refine end_retE ?_ | refine end_normE ?_); simp only [fin, go_sem])
    exact dv_of rfl hR.symm
noncomputable def con43 : PCon Try.prog where
  f := 43
  c := fun
    | [.lit (.string op), xns, .lit (.int .i64 num), xds] => match slK .i64 xns, ilsOf xds with | some ns, some ds => some (ds.length ≤ 1000000, dV (dimsI op ns num ds)) | _, _ => none
    | _ => none
  ok := by
    intro args p r hc hp
    split at hc
    · split at hc
      · rename_i hns hds
        cases hc
        exact PC.weak (dimsI_pc hp) ⟨LeA.refl _, slK_le hns, LeA.refl _, ilsOf_le hds, trivial⟩
      · cases hc
    · cases hc
  fk := fk43
theorem con43_f : con43.f = 43 := rfl
theorem con43_c {op : ByteArray} {xns : AV} {num : Int} {xds : AV} : con43.c [.lit (.string op), xns, .lit (.int .i64 num), xds] = match slK .i64 xns, ilsOf xds with | some ns, some ds => some (ds.length ≤ 1000000, dV (dimsI op ns num ds)) | _, _ => none := rfl
end Go.Proofs.Ytjlcbojpiieafaa

/- The names of the primitives, their ranks (reference). -/
namespace Go.Proofs.Ytjlcbojpiieafaa
open Go Go.Fw

theorem z0_0 : eqS n_iota ⟨#[105, 111, 116, 97]⟩ = true := rfl
theorem z0_1 : eqS n_iota ⟨#[102, 105, 108, 108]⟩ = false := rfl
theorem z0_2 : eqS n_iota ⟨#[116, 97, 107, 101]⟩ = false := rfl
theorem z0_3 : eqS n_iota ⟨#[100, 114, 111, 112]⟩ = false := rfl
theorem z0_4 : eqS n_iota ⟨#[114, 101, 118, 101, 114, 115, 101]⟩ = false := rfl
theorem z0_5 : eqS n_iota ⟨#[97, 112, 112, 101, 110, 100]⟩ = false := rfl
theorem z0_6 : eqS n_iota ⟨#[116, 114, 97, 110, 115, 112, 111, 115, 101]⟩ = false := rfl
theorem z0_7 : eqS n_iota ⟨#[100, 105, 97, 103, 111, 110, 97, 108]⟩ = false := rfl
theorem z0_8 : eqS n_iota ⟨#[119, 105, 110, 100, 111, 119, 115]⟩ = false := rfl
theorem z0_9 : eqS n_iota ⟨#[99, 104, 117, 110, 107]⟩ = false := rfl
theorem z0_10 : eqS n_iota ⟨#[105, 110, 100, 101, 120]⟩ = false := rfl
theorem z0_11 : eqS n_iota ⟨#[117, 112, 100, 97, 116, 101]⟩ = false := rfl
theorem z0_12 : eqS n_iota ⟨#[112, 97, 99, 107]⟩ = false := rfl
theorem z1_0 : eqS n_fill ⟨#[105, 111, 116, 97]⟩ = false := rfl
theorem z1_1 : eqS n_fill ⟨#[102, 105, 108, 108]⟩ = true := rfl
theorem z1_2 : eqS n_fill ⟨#[116, 97, 107, 101]⟩ = false := rfl
theorem z1_3 : eqS n_fill ⟨#[100, 114, 111, 112]⟩ = false := rfl
theorem z1_4 : eqS n_fill ⟨#[114, 101, 118, 101, 114, 115, 101]⟩ = false := rfl
theorem z1_5 : eqS n_fill ⟨#[97, 112, 112, 101, 110, 100]⟩ = false := rfl
theorem z1_6 : eqS n_fill ⟨#[116, 114, 97, 110, 115, 112, 111, 115, 101]⟩ = false := rfl
theorem z1_7 : eqS n_fill ⟨#[100, 105, 97, 103, 111, 110, 97, 108]⟩ = false := rfl
theorem z1_8 : eqS n_fill ⟨#[119, 105, 110, 100, 111, 119, 115]⟩ = false := rfl
theorem z1_9 : eqS n_fill ⟨#[99, 104, 117, 110, 107]⟩ = false := rfl
theorem z1_10 : eqS n_fill ⟨#[105, 110, 100, 101, 120]⟩ = false := rfl
theorem z1_11 : eqS n_fill ⟨#[117, 112, 100, 97, 116, 101]⟩ = false := rfl
theorem z1_12 : eqS n_fill ⟨#[112, 97, 99, 107]⟩ = false := rfl
theorem z2_0 : eqS n_take ⟨#[105, 111, 116, 97]⟩ = false := rfl
theorem z2_1 : eqS n_take ⟨#[102, 105, 108, 108]⟩ = false := rfl
theorem z2_2 : eqS n_take ⟨#[116, 97, 107, 101]⟩ = true := rfl
theorem z2_3 : eqS n_take ⟨#[100, 114, 111, 112]⟩ = false := rfl
theorem z2_4 : eqS n_take ⟨#[114, 101, 118, 101, 114, 115, 101]⟩ = false := rfl
theorem z2_5 : eqS n_take ⟨#[97, 112, 112, 101, 110, 100]⟩ = false := rfl
theorem z2_6 : eqS n_take ⟨#[116, 114, 97, 110, 115, 112, 111, 115, 101]⟩ = false := rfl
theorem z2_7 : eqS n_take ⟨#[100, 105, 97, 103, 111, 110, 97, 108]⟩ = false := rfl
theorem z2_8 : eqS n_take ⟨#[119, 105, 110, 100, 111, 119, 115]⟩ = false := rfl
theorem z2_9 : eqS n_take ⟨#[99, 104, 117, 110, 107]⟩ = false := rfl
theorem z2_10 : eqS n_take ⟨#[105, 110, 100, 101, 120]⟩ = false := rfl
theorem z2_11 : eqS n_take ⟨#[117, 112, 100, 97, 116, 101]⟩ = false := rfl
theorem z2_12 : eqS n_take ⟨#[112, 97, 99, 107]⟩ = false := rfl
theorem z3_0 : eqS n_drop ⟨#[105, 111, 116, 97]⟩ = false := rfl
theorem z3_1 : eqS n_drop ⟨#[102, 105, 108, 108]⟩ = false := rfl
theorem z3_2 : eqS n_drop ⟨#[116, 97, 107, 101]⟩ = false := rfl
theorem z3_3 : eqS n_drop ⟨#[100, 114, 111, 112]⟩ = true := rfl
theorem z3_4 : eqS n_drop ⟨#[114, 101, 118, 101, 114, 115, 101]⟩ = false := rfl
theorem z3_5 : eqS n_drop ⟨#[97, 112, 112, 101, 110, 100]⟩ = false := rfl
theorem z3_6 : eqS n_drop ⟨#[116, 114, 97, 110, 115, 112, 111, 115, 101]⟩ = false := rfl
theorem z3_7 : eqS n_drop ⟨#[100, 105, 97, 103, 111, 110, 97, 108]⟩ = false := rfl
theorem z3_8 : eqS n_drop ⟨#[119, 105, 110, 100, 111, 119, 115]⟩ = false := rfl
theorem z3_9 : eqS n_drop ⟨#[99, 104, 117, 110, 107]⟩ = false := rfl
theorem z3_10 : eqS n_drop ⟨#[105, 110, 100, 101, 120]⟩ = false := rfl
theorem z3_11 : eqS n_drop ⟨#[117, 112, 100, 97, 116, 101]⟩ = false := rfl
theorem z3_12 : eqS n_drop ⟨#[112, 97, 99, 107]⟩ = false := rfl
theorem z4_0 : eqS n_reverse ⟨#[105, 111, 116, 97]⟩ = false := rfl
theorem z4_1 : eqS n_reverse ⟨#[102, 105, 108, 108]⟩ = false := rfl
theorem z4_2 : eqS n_reverse ⟨#[116, 97, 107, 101]⟩ = false := rfl
theorem z4_3 : eqS n_reverse ⟨#[100, 114, 111, 112]⟩ = false := rfl
theorem z4_4 : eqS n_reverse ⟨#[114, 101, 118, 101, 114, 115, 101]⟩ = true := rfl
theorem z4_5 : eqS n_reverse ⟨#[97, 112, 112, 101, 110, 100]⟩ = false := rfl
theorem z4_6 : eqS n_reverse ⟨#[116, 114, 97, 110, 115, 112, 111, 115, 101]⟩ = false := rfl
theorem z4_7 : eqS n_reverse ⟨#[100, 105, 97, 103, 111, 110, 97, 108]⟩ = false := rfl
theorem z4_8 : eqS n_reverse ⟨#[119, 105, 110, 100, 111, 119, 115]⟩ = false := rfl
theorem z4_9 : eqS n_reverse ⟨#[99, 104, 117, 110, 107]⟩ = false := rfl
theorem z4_10 : eqS n_reverse ⟨#[105, 110, 100, 101, 120]⟩ = false := rfl
theorem z4_11 : eqS n_reverse ⟨#[117, 112, 100, 97, 116, 101]⟩ = false := rfl
theorem z4_12 : eqS n_reverse ⟨#[112, 97, 99, 107]⟩ = false := rfl
theorem z5_0 : eqS n_append ⟨#[105, 111, 116, 97]⟩ = false := rfl
theorem z5_1 : eqS n_append ⟨#[102, 105, 108, 108]⟩ = false := rfl
theorem z5_2 : eqS n_append ⟨#[116, 97, 107, 101]⟩ = false := rfl
theorem z5_3 : eqS n_append ⟨#[100, 114, 111, 112]⟩ = false := rfl
theorem z5_4 : eqS n_append ⟨#[114, 101, 118, 101, 114, 115, 101]⟩ = false := rfl
theorem z5_5 : eqS n_append ⟨#[97, 112, 112, 101, 110, 100]⟩ = true := rfl
theorem z5_6 : eqS n_append ⟨#[116, 114, 97, 110, 115, 112, 111, 115, 101]⟩ = false := rfl
theorem z5_7 : eqS n_append ⟨#[100, 105, 97, 103, 111, 110, 97, 108]⟩ = false := rfl
theorem z5_8 : eqS n_append ⟨#[119, 105, 110, 100, 111, 119, 115]⟩ = false := rfl
theorem z5_9 : eqS n_append ⟨#[99, 104, 117, 110, 107]⟩ = false := rfl
theorem z5_10 : eqS n_append ⟨#[105, 110, 100, 101, 120]⟩ = false := rfl
theorem z5_11 : eqS n_append ⟨#[117, 112, 100, 97, 116, 101]⟩ = false := rfl
theorem z5_12 : eqS n_append ⟨#[112, 97, 99, 107]⟩ = false := rfl
theorem z6_0 : eqS n_transpose ⟨#[105, 111, 116, 97]⟩ = false := rfl
theorem z6_1 : eqS n_transpose ⟨#[102, 105, 108, 108]⟩ = false := rfl
theorem z6_2 : eqS n_transpose ⟨#[116, 97, 107, 101]⟩ = false := rfl
theorem z6_3 : eqS n_transpose ⟨#[100, 114, 111, 112]⟩ = false := rfl
theorem z6_4 : eqS n_transpose ⟨#[114, 101, 118, 101, 114, 115, 101]⟩ = false := rfl
theorem z6_5 : eqS n_transpose ⟨#[97, 112, 112, 101, 110, 100]⟩ = false := rfl
theorem z6_6 : eqS n_transpose ⟨#[116, 114, 97, 110, 115, 112, 111, 115, 101]⟩ = true := rfl
theorem z6_7 : eqS n_transpose ⟨#[100, 105, 97, 103, 111, 110, 97, 108]⟩ = false := rfl
theorem z6_8 : eqS n_transpose ⟨#[119, 105, 110, 100, 111, 119, 115]⟩ = false := rfl
theorem z6_9 : eqS n_transpose ⟨#[99, 104, 117, 110, 107]⟩ = false := rfl
theorem z6_10 : eqS n_transpose ⟨#[105, 110, 100, 101, 120]⟩ = false := rfl
theorem z6_11 : eqS n_transpose ⟨#[117, 112, 100, 97, 116, 101]⟩ = false := rfl
theorem z6_12 : eqS n_transpose ⟨#[112, 97, 99, 107]⟩ = false := rfl
theorem z7_0 : eqS n_diagonal ⟨#[105, 111, 116, 97]⟩ = false := rfl
theorem z7_1 : eqS n_diagonal ⟨#[102, 105, 108, 108]⟩ = false := rfl
theorem z7_2 : eqS n_diagonal ⟨#[116, 97, 107, 101]⟩ = false := rfl
theorem z7_3 : eqS n_diagonal ⟨#[100, 114, 111, 112]⟩ = false := rfl
theorem z7_4 : eqS n_diagonal ⟨#[114, 101, 118, 101, 114, 115, 101]⟩ = false := rfl
theorem z7_5 : eqS n_diagonal ⟨#[97, 112, 112, 101, 110, 100]⟩ = false := rfl
theorem z7_6 : eqS n_diagonal ⟨#[116, 114, 97, 110, 115, 112, 111, 115, 101]⟩ = false := rfl
theorem z7_7 : eqS n_diagonal ⟨#[100, 105, 97, 103, 111, 110, 97, 108]⟩ = true := rfl
theorem z7_8 : eqS n_diagonal ⟨#[119, 105, 110, 100, 111, 119, 115]⟩ = false := rfl
theorem z7_9 : eqS n_diagonal ⟨#[99, 104, 117, 110, 107]⟩ = false := rfl
theorem z7_10 : eqS n_diagonal ⟨#[105, 110, 100, 101, 120]⟩ = false := rfl
theorem z7_11 : eqS n_diagonal ⟨#[117, 112, 100, 97, 116, 101]⟩ = false := rfl
theorem z7_12 : eqS n_diagonal ⟨#[112, 97, 99, 107]⟩ = false := rfl
theorem z8_0 : eqS n_windows ⟨#[105, 111, 116, 97]⟩ = false := rfl
theorem z8_1 : eqS n_windows ⟨#[102, 105, 108, 108]⟩ = false := rfl
theorem z8_2 : eqS n_windows ⟨#[116, 97, 107, 101]⟩ = false := rfl
theorem z8_3 : eqS n_windows ⟨#[100, 114, 111, 112]⟩ = false := rfl
theorem z8_4 : eqS n_windows ⟨#[114, 101, 118, 101, 114, 115, 101]⟩ = false := rfl
theorem z8_5 : eqS n_windows ⟨#[97, 112, 112, 101, 110, 100]⟩ = false := rfl
theorem z8_6 : eqS n_windows ⟨#[116, 114, 97, 110, 115, 112, 111, 115, 101]⟩ = false := rfl
theorem z8_7 : eqS n_windows ⟨#[100, 105, 97, 103, 111, 110, 97, 108]⟩ = false := rfl
theorem z8_8 : eqS n_windows ⟨#[119, 105, 110, 100, 111, 119, 115]⟩ = true := rfl
theorem z8_9 : eqS n_windows ⟨#[99, 104, 117, 110, 107]⟩ = false := rfl
theorem z8_10 : eqS n_windows ⟨#[105, 110, 100, 101, 120]⟩ = false := rfl
theorem z8_11 : eqS n_windows ⟨#[117, 112, 100, 97, 116, 101]⟩ = false := rfl
theorem z8_12 : eqS n_windows ⟨#[112, 97, 99, 107]⟩ = false := rfl
theorem z9_0 : eqS n_chunk ⟨#[105, 111, 116, 97]⟩ = false := rfl
theorem z9_1 : eqS n_chunk ⟨#[102, 105, 108, 108]⟩ = false := rfl
theorem z9_2 : eqS n_chunk ⟨#[116, 97, 107, 101]⟩ = false := rfl
theorem z9_3 : eqS n_chunk ⟨#[100, 114, 111, 112]⟩ = false := rfl
theorem z9_4 : eqS n_chunk ⟨#[114, 101, 118, 101, 114, 115, 101]⟩ = false := rfl
theorem z9_5 : eqS n_chunk ⟨#[97, 112, 112, 101, 110, 100]⟩ = false := rfl
theorem z9_6 : eqS n_chunk ⟨#[116, 114, 97, 110, 115, 112, 111, 115, 101]⟩ = false := rfl
theorem z9_7 : eqS n_chunk ⟨#[100, 105, 97, 103, 111, 110, 97, 108]⟩ = false := rfl
theorem z9_8 : eqS n_chunk ⟨#[119, 105, 110, 100, 111, 119, 115]⟩ = false := rfl
theorem z9_9 : eqS n_chunk ⟨#[99, 104, 117, 110, 107]⟩ = true := rfl
theorem z9_10 : eqS n_chunk ⟨#[105, 110, 100, 101, 120]⟩ = false := rfl
theorem z9_11 : eqS n_chunk ⟨#[117, 112, 100, 97, 116, 101]⟩ = false := rfl
theorem z9_12 : eqS n_chunk ⟨#[112, 97, 99, 107]⟩ = false := rfl
theorem z10_0 : eqS n_index ⟨#[105, 111, 116, 97]⟩ = false := rfl
theorem z10_1 : eqS n_index ⟨#[102, 105, 108, 108]⟩ = false := rfl
theorem z10_2 : eqS n_index ⟨#[116, 97, 107, 101]⟩ = false := rfl
theorem z10_3 : eqS n_index ⟨#[100, 114, 111, 112]⟩ = false := rfl
theorem z10_4 : eqS n_index ⟨#[114, 101, 118, 101, 114, 115, 101]⟩ = false := rfl
theorem z10_5 : eqS n_index ⟨#[97, 112, 112, 101, 110, 100]⟩ = false := rfl
theorem z10_6 : eqS n_index ⟨#[116, 114, 97, 110, 115, 112, 111, 115, 101]⟩ = false := rfl
theorem z10_7 : eqS n_index ⟨#[100, 105, 97, 103, 111, 110, 97, 108]⟩ = false := rfl
theorem z10_8 : eqS n_index ⟨#[119, 105, 110, 100, 111, 119, 115]⟩ = false := rfl
theorem z10_9 : eqS n_index ⟨#[99, 104, 117, 110, 107]⟩ = false := rfl
theorem z10_10 : eqS n_index ⟨#[105, 110, 100, 101, 120]⟩ = true := rfl
theorem z10_11 : eqS n_index ⟨#[117, 112, 100, 97, 116, 101]⟩ = false := rfl
theorem z10_12 : eqS n_index ⟨#[112, 97, 99, 107]⟩ = false := rfl
theorem z11_0 : eqS n_update ⟨#[105, 111, 116, 97]⟩ = false := rfl
theorem z11_1 : eqS n_update ⟨#[102, 105, 108, 108]⟩ = false := rfl
theorem z11_2 : eqS n_update ⟨#[116, 97, 107, 101]⟩ = false := rfl
theorem z11_3 : eqS n_update ⟨#[100, 114, 111, 112]⟩ = false := rfl
theorem z11_4 : eqS n_update ⟨#[114, 101, 118, 101, 114, 115, 101]⟩ = false := rfl
theorem z11_5 : eqS n_update ⟨#[97, 112, 112, 101, 110, 100]⟩ = false := rfl
theorem z11_6 : eqS n_update ⟨#[116, 114, 97, 110, 115, 112, 111, 115, 101]⟩ = false := rfl
theorem z11_7 : eqS n_update ⟨#[100, 105, 97, 103, 111, 110, 97, 108]⟩ = false := rfl
theorem z11_8 : eqS n_update ⟨#[119, 105, 110, 100, 111, 119, 115]⟩ = false := rfl
theorem z11_9 : eqS n_update ⟨#[99, 104, 117, 110, 107]⟩ = false := rfl
theorem z11_10 : eqS n_update ⟨#[105, 110, 100, 101, 120]⟩ = false := rfl
theorem z11_11 : eqS n_update ⟨#[117, 112, 100, 97, 116, 101]⟩ = true := rfl
theorem z11_12 : eqS n_update ⟨#[112, 97, 99, 107]⟩ = false := rfl
theorem z12_0 : eqS n_pack ⟨#[105, 111, 116, 97]⟩ = false := rfl
theorem z12_1 : eqS n_pack ⟨#[102, 105, 108, 108]⟩ = false := rfl
theorem z12_2 : eqS n_pack ⟨#[116, 97, 107, 101]⟩ = false := rfl
theorem z12_3 : eqS n_pack ⟨#[100, 114, 111, 112]⟩ = false := rfl
theorem z12_4 : eqS n_pack ⟨#[114, 101, 118, 101, 114, 115, 101]⟩ = false := rfl
theorem z12_5 : eqS n_pack ⟨#[97, 112, 112, 101, 110, 100]⟩ = false := rfl
theorem z12_6 : eqS n_pack ⟨#[116, 114, 97, 110, 115, 112, 111, 115, 101]⟩ = false := rfl
theorem z12_7 : eqS n_pack ⟨#[100, 105, 97, 103, 111, 110, 97, 108]⟩ = false := rfl
theorem z12_8 : eqS n_pack ⟨#[119, 105, 110, 100, 111, 119, 115]⟩ = false := rfl
theorem z12_9 : eqS n_pack ⟨#[99, 104, 117, 110, 107]⟩ = false := rfl
theorem z12_10 : eqS n_pack ⟨#[105, 110, 100, 101, 120]⟩ = false := rfl
theorem z12_11 : eqS n_pack ⟨#[117, 112, 100, 97, 116, 101]⟩ = false := rfl
theorem z12_12 : eqS n_pack ⟨#[112, 97, 99, 107]⟩ = true := rfl
theorem eqS_symm (a b : ByteArray) : eqS a b = eqS b a := by
  cases h : eqS b a with
  | true => rw [eqS_iff.1 h]; exact eqS_refl _
  | false =>
    cases h2 : eqS a b with
    | false => rfl
    | true => rw [eqS_iff.1 h2, eqS_refl] at h; cases h
theorem op_cases (op : ByteArray) : op = n_iota ∨ op = n_fill ∨ op = n_take ∨ op = n_drop ∨ op = n_reverse ∨ op = n_append ∨ op = n_transpose ∨ op = n_diagonal ∨ op = n_windows ∨ op = n_chunk ∨ op = n_index ∨ op = n_update ∨ op = n_pack ∨ (eqS op ⟨#[105, 111, 116, 97]⟩ = false ∧ eqS op ⟨#[102, 105, 108, 108]⟩ = false ∧ eqS op ⟨#[116, 97, 107, 101]⟩ = false ∧ eqS op ⟨#[100, 114, 111, 112]⟩ = false ∧ eqS op ⟨#[114, 101, 118, 101, 114, 115, 101]⟩ = false ∧ eqS op ⟨#[97, 112, 112, 101, 110, 100]⟩ = false ∧ eqS op ⟨#[116, 114, 97, 110, 115, 112, 111, 115, 101]⟩ = false ∧ eqS op ⟨#[100, 105, 97, 103, 111, 110, 97, 108]⟩ = false ∧ eqS op ⟨#[119, 105, 110, 100, 111, 119, 115]⟩ = false ∧ eqS op ⟨#[99, 104, 117, 110, 107]⟩ = false ∧ eqS op ⟨#[105, 110, 100, 101, 120]⟩ = false ∧ eqS op ⟨#[117, 112, 100, 97, 116, 101]⟩ = false ∧ eqS op ⟨#[112, 97, 99, 107]⟩ = false) := by
  by_cases h0 : op = n_iota
  · exact .inl h0
  by_cases h1 : op = n_fill
  · exact .inr (.inl h1)
  by_cases h2 : op = n_take
  · exact .inr (.inr (.inl h2))
  by_cases h3 : op = n_drop
  · exact .inr (.inr (.inr (.inl h3)))
  by_cases h4 : op = n_reverse
  · exact .inr (.inr (.inr (.inr (.inl h4))))
  by_cases h5 : op = n_append
  · exact .inr (.inr (.inr (.inr (.inr (.inl h5)))))
  by_cases h6 : op = n_transpose
  · exact .inr (.inr (.inr (.inr (.inr (.inr (.inl h6))))))
  by_cases h7 : op = n_diagonal
  · exact .inr (.inr (.inr (.inr (.inr (.inr (.inr (.inl h7)))))))
  by_cases h8 : op = n_windows
  · exact .inr (.inr (.inr (.inr (.inr (.inr (.inr (.inr (.inl h8))))))))
  by_cases h9 : op = n_chunk
  · exact .inr (.inr (.inr (.inr (.inr (.inr (.inr (.inr (.inr (.inl h9)))))))))
  by_cases h10 : op = n_index
  · exact .inr (.inr (.inr (.inr (.inr (.inr (.inr (.inr (.inr (.inr (.inl h10))))))))))
  by_cases h11 : op = n_update
  · exact .inr (.inr (.inr (.inr (.inr (.inr (.inr (.inr (.inr (.inr (.inr (.inl h11)))))))))))
  by_cases h12 : op = n_pack
  · exact .inr (.inr (.inr (.inr (.inr (.inr (.inr (.inr (.inr (.inr (.inr (.inr (.inl h12))))))))))))
  exact .inr (.inr (.inr (.inr (.inr (.inr (.inr (.inr (.inr (.inr (.inr (.inr (.inr (⟨Bool.eq_false_iff.2 fun e => h0 (eqS_iff.1 e), Bool.eq_false_iff.2 fun e => h1 (eqS_iff.1 e), Bool.eq_false_iff.2 fun e => h2 (eqS_iff.1 e), Bool.eq_false_iff.2 fun e => h3 (eqS_iff.1 e), Bool.eq_false_iff.2 fun e => h4 (eqS_iff.1 e), Bool.eq_false_iff.2 fun e => h5 (eqS_iff.1 e), Bool.eq_false_iff.2 fun e => h6 (eqS_iff.1 e), Bool.eq_false_iff.2 fun e => h7 (eqS_iff.1 e), Bool.eq_false_iff.2 fun e => h8 (eqS_iff.1 e), Bool.eq_false_iff.2 fun e => h9 (eqS_iff.1 e), Bool.eq_false_iff.2 fun e => h10 (eqS_iff.1 e), Bool.eq_false_iff.2 fun e => h11 (eqS_iff.1 e), Bool.eq_false_iff.2 fun e => h12 (eqS_iff.1 e)⟩)))))))))))))
def opI (op : ByteArray) : Nat := if eqS op n_iota = true then 0 else if eqS op n_fill = true then 1 else if eqS op n_take = true then 2 else if eqS op n_drop = true then 3 else if eqS op n_reverse = true then 4 else if eqS op n_append = true then 5 else if eqS op n_transpose = true then 6 else if eqS op n_diagonal = true then 7 else if eqS op n_windows = true then 8 else if eqS op n_chunk = true then 9 else if eqS op n_index = true then 10 else if eqS op n_update = true then 11 else if eqS op n_pack = true then 12 else 13
theorem opI_iota : opI n_iota = 0 := rfl
theorem opI_fill : opI n_fill = 1 := rfl
theorem opI_take : opI n_take = 2 := rfl
theorem opI_drop : opI n_drop = 3 := rfl
theorem opI_reverse : opI n_reverse = 4 := rfl
theorem opI_append : opI n_append = 5 := rfl
theorem opI_transpose : opI n_transpose = 6 := rfl
theorem opI_diagonal : opI n_diagonal = 7 := rfl
theorem opI_windows : opI n_windows = 8 := rfl
theorem opI_chunk : opI n_chunk = 9 := rfl
theorem opI_index : opI n_index = 10 := rfl
theorem opI_update : opI n_update = 11 := rfl
theorem opI_pack : opI n_pack = 12 := rfl
theorem opI_no {op : ByteArray} (h : eqS op ⟨#[105, 111, 116, 97]⟩ = false ∧ eqS op ⟨#[102, 105, 108, 108]⟩ = false ∧ eqS op ⟨#[116, 97, 107, 101]⟩ = false ∧ eqS op ⟨#[100, 114, 111, 112]⟩ = false ∧ eqS op ⟨#[114, 101, 118, 101, 114, 115, 101]⟩ = false ∧ eqS op ⟨#[97, 112, 112, 101, 110, 100]⟩ = false ∧ eqS op ⟨#[116, 114, 97, 110, 115, 112, 111, 115, 101]⟩ = false ∧ eqS op ⟨#[100, 105, 97, 103, 111, 110, 97, 108]⟩ = false ∧ eqS op ⟨#[119, 105, 110, 100, 111, 119, 115]⟩ = false ∧ eqS op ⟨#[99, 104, 117, 110, 107]⟩ = false ∧ eqS op ⟨#[105, 110, 100, 101, 120]⟩ = false ∧ eqS op ⟨#[117, 112, 100, 97, 116, 101]⟩ = false ∧ eqS op ⟨#[112, 97, 99, 107]⟩ = false) : opI op = 13 := by
  obtain ⟨q0, q1, q2, q3, q4, q5, q6, q7, q8, q9, q10, q11, q12⟩ := h
  unfold opI
  rw [if_neg (by rw [show eqS op n_iota = false from q0]; decide), if_neg (by rw [show eqS op n_fill = false from q1]; decide), if_neg (by rw [show eqS op n_take = false from q2]; decide), if_neg (by rw [show eqS op n_drop = false from q3]; decide), if_neg (by rw [show eqS op n_reverse = false from q4]; decide), if_neg (by rw [show eqS op n_append = false from q5]; decide), if_neg (by rw [show eqS op n_transpose = false from q6]; decide), if_neg (by rw [show eqS op n_diagonal = false from q7]; decide), if_neg (by rw [show eqS op n_windows = false from q8]; decide), if_neg (by rw [show eqS op n_chunk = false from q9]; decide), if_neg (by rw [show eqS op n_index = false from q10]; decide), if_neg (by rw [show eqS op n_update = false from q11]; decide), if_neg (by rw [show eqS op n_pack = false from q12]; decide)]
def opNames : List ByteArray := [n_iota, n_fill, n_take, n_drop, n_reverse, n_append, n_transpose, n_diagonal, n_windows, n_chunk, n_index, n_update, n_pack]
def isS (op : ByteArray) : Bool := opNames.any fun s => eqS s op
def sizedS (op : ByteArray) : Bool := eqS op n_iota || eqS op n_fill || eqS op n_take || eqS op n_drop || eqS op n_windows
def rankL : Nat → Int → Option (List Int)
  | 0, _ => some []
  | 1, _ => some [0]
  | 2, _ | 3, _ | 4, _ | 8, _ | 9, _ => some [1]
  | 5, _ => some [1, 1]
  | 6, _ | 7, _ => some [2]
  | 10, _ => some [1, 0]
  | 11, _ => some [1, 0, 0]
  | 12, n => if 1 ≤ n ∧ n ≤ 4096 then some (List.replicate n.toNat 0) else none
  | _, _ => none
def ranksQ (op : ByteArray) (n : Int) : List Int × Bool := match rankL (opI op) n with
  | some l => if (l.length : Int) ≠ n then ([], false) else (l, true)
  | none => ([], false)
set_option maxHeartbeats 2000000 in
theorem rops_pc : PC Try.prog 58 [] (.sl false 1 (strs opNames)) := by
  refine pc_ofR F1_ok mixed (fun _ => [0]) (rs := [.tmp 0]) Try.func58 rfl (by kernel_rfl) (by kernel_rfl) (Nat.le_of_ble_eq_true rfl) ?_
  simp only [initF_cons, initF_nil, Nat.reduceAdd]
  refine t_name fun KF => ?_
  unfold F1
  repeat' (first
   | (with_reducible first | refine t_seq fun K => ?_ | refine t_block ?_ | refine t_scope ?_ | refine t_label ?_ | refine t_skip ?_ | refine t_exit ?_ | refine t_ret ?_ | refine t_k ?_ | refine t_gF ?_ | exact kp_nil | exact Kp.refl _ | exact kp_to | refine kp_cons ?_ | refine kp_arr ?_ | refine kp_app ?_ | refine t_p ?_ | refine t_br (fun hc => ?_) fun hc => ?_)
   | ((with_reducible first | refine t_kE ?_ | refine t_kD ?_ | refine t_gS ?_ | refine t_kL ?_ | refine t_kLF ?_ ?_ | refine t_region fun K => ?_ | refine t_cond fun A B => ?_ | refine t_draw (by kernel_rfl) fun K => ?_); simp only [go_sem, geff])
   | ((with_reducible refine kp_skip ?_ ?_); rfl) | simp only [thenQ, blockQ, scopeQ, Nat.reduceEqDiff, reduceIte] | (with_reducible first | refine And.intro ?_ ?_ | intro vr))
  all_goals try (first | (with_reducible assumption) | (intros; (try simp only [Bool.and_eq_true, Bool.or_eq_true, Bool.or_eq_false_iff, Bool.not_eq_true', Bool.not_eq_false', decide_eq_true_eq, decide_eq_false_iff_not, beq_iff_eq, beq_eq_false_iff_ne, bne_iff_ne, bne_eq_false_iff_eq, ne_eq, inI64, List.length_append] at *) <;> omega))
  all_goals ((first | refine end_retE ?_ | refine end_normE ?_); simp only [fin, go_sem])
  exact LeA.full _ _ _
noncomputable def con58 : PCon Try.prog where
  f := 58
  c := fun
    | [] => some (True, .sl false 1 (strs opNames))
    | _ => none
  ok := by
    intro args p r hc hp
    split at hc
    · cases hc; exact rops_pc
    · cases hc
  fk := fk58
theorem con58_f : con58.f = 58 := rfl
theorem con58_c  : con58.c [] = some (True, .sl false 1 (strs opNames)) := rfl
noncomputable def G1 : Env := envJ (P := Try.prog) jk2 zer (fun _ => false) (fun _ => false) [con58] []
theorem G1_ok : EnvOk Try.prog G1 := envJOk zer_ok
set_option maxHeartbeats 2000000 in
theorem ris_pc {op : ByteArray} : PC Try.prog 55 [.lit (.string op)] (.lit (.bool (isS op))) := by
  unfold isS
  generalize hL : opNames = L
  have hlen : L.length = 13 := by rw [← hL]; rfl
  refine pc_ofR G1_ok mixed (fun _ => [0, 2, 3, 4, 9, 17]) (rs := [.tmp 2]) Try.func55 rfl (by kernel_rfl) (by kernel_rfl) (Nat.le_of_ble_eq_true rfl) ?_
  simp only [initF_cons, initF_nil, Nat.reduceAdd]
  refine t_name fun KF => ?_
  unfold G1
  repeat' (first
   | (with_reducible first | refine t_seq fun K => ?_ | refine t_block ?_ | refine t_scope ?_ | refine t_label ?_ | refine t_skip ?_ | refine t_exit ?_ | refine t_ret ?_ | refine t_k ?_ | refine t_gF ?_ | exact kp_nil | exact Kp.refl _ | exact kp_to | refine kp_cons ?_ | refine kp_arr ?_ | refine kp_app ?_ | refine t_p ?_ | refine t_br (fun hc => ?_) fun hc => ?_)
   | ((with_reducible first | refine t_kE ?_ | refine t_kD ?_ | refine t_gS ?_ | refine t_kL ?_ | refine t_kLF ?_ ?_ | refine t_region fun K => ?_ | refine t_cond fun A B => ?_ | refine t_draw (by kernel_rfl) fun K => ?_); simp only [go_sem, geff, con58_f, con58_c, hL, strs_length])
   | ((with_reducible refine kp_skip ?_ ?_); rfl) | simp only [thenQ, blockQ, scopeQ, Nat.reduceEqDiff, reduceIte] | (with_reducible first | refine And.intro ?_ ?_ | intro vr))
  all_goals try (first | (with_reducible assumption) | (intros; (try simp only [Bool.and_eq_true, Bool.or_eq_true, Bool.or_eq_false_iff, Bool.not_eq_true', Bool.not_eq_false', decide_eq_true_eq, decide_eq_false_iff_not, beq_iff_eq, beq_eq_false_iff_ne, bne_iff_ne, bne_eq_false_iff_eq, ne_eq, inI64, List.length_append] at *) <;> omega))
  refine t_loopF (ι := { i : Nat // i ≤ L.length ∧ ((L.drop i).any fun s => eqS s op) = L.any fun s => eqS s op }) (fun i => [(4, .lit (.int .i64 i.1))]) (fun i => []) (fun i => L.length - i.1) ⟨0, by omega, rfl⟩ ?_ ?_
  · simp only [updL_nil, updL_cons, delF_top, delF_upd, Nat.reduceEqDiff, reduceIte]
    refine Le.frameS (by first | rfl | (simp only [go_sem]; try rfl)) ?_
    repeat' (first | exact leF_top _ | exact (fun _ => LeR.refl _) | (with_reducible refine leF_sl ?_ ?_) | (refine leF_upd ?_ ?_))
    all_goals (first | exact LeR.top _ | exact LeR.refl _ | (refine LeR.of_eq ?_; (try simp only [go_sem]); try rfl) | ((try simp only [go_sem]); try rfl))
  rintro ⟨i, hi, hF⟩ K0
  rcases Nat.lt_or_ge i L.length with hc | hc
  · rw [drop_getD ByteArray.empty hc, List.any_cons] at hF
    have g3 : decide ((i : Int) < (L.length : Int)) = true := decide_eq_true (by omega)
    repeat' (first
     | (with_reducible first | refine t_seq fun K => ?_ | refine t_block ?_ | refine t_scope ?_ | refine t_label ?_ | refine t_skip ?_ | refine t_exit ?_ | refine t_ret ?_ | refine t_k ?_ | refine t_gF ?_ | exact kp_nil | exact Kp.refl _ | exact kp_to | refine kp_cons ?_ | refine kp_arr ?_ | refine kp_app ?_ | refine t_p ?_ | refine t_br (fun hc => ?_) fun hc => ?_)
     | ((with_reducible first | refine t_kE ?_ | refine t_kD ?_ | refine t_gS ?_ | refine t_kL ?_ | refine t_kLF ?_ ?_ | refine t_region fun K => ?_ | refine t_cond fun A B => ?_ | refine t_draw (by kernel_rfl) fun K => ?_); simp only [go_sem, geff, g3, Int.toNat_natCast, strs_length, con58_f])
     | ((with_reducible refine kp_skip ?_ ?_); rfl) | simp only [thenQ, blockQ, scopeQ, Nat.reduceEqDiff, reduceIte] | (with_reducible first | refine And.intro ?_ ?_ | intro vr))
    all_goals try (first | (with_reducible assumption) | (intros; (try simp only [Bool.and_eq_true, Bool.or_eq_true, Bool.or_eq_false_iff, Bool.not_eq_true', Bool.not_eq_false', decide_eq_true_eq, decide_eq_false_iff_not, beq_iff_eq, beq_eq_false_iff_ne, bne_iff_ne, bne_eq_false_iff_eq, ne_eq, inI64, List.length_append] at *) <;> omega))
    · skip
      all_goals ((first | refine end_retE ?_ | refine end_normE ?_); simp only [fin, go_sem])
      exact LeA.of_eq (by rw [← hF, hc]; rfl)
    · skip
      refine ⟨⟨i + 1, by omega, by rw [← hF, hc]; rfl⟩, by first | (simp only; omega) | omega, ?_⟩
      simp only [updL_nil, updL_cons, delF_top, delF_upd, Nat.reduceEqDiff, reduceIte]
      refine Le.frameS (by first | rfl | (simp only [go_sem]; try rfl)) ?_
      repeat' (first | exact leF_top _ | exact (fun _ => LeR.refl _) | (with_reducible refine leF_sl ?_ ?_) | (refine leF_upd ?_ ?_))
      all_goals (first | exact LeR.top _ | exact LeR.refl _ | (refine LeR.of_eq ?_; (try simp only [go_sem]); try rfl) | ((try simp only [go_sem]); try rfl))
  · have g3 : decide ((i : Int) < (L.length : Int)) = false := decide_eq_false (by omega)
    rw [List.drop_eq_nil_of_le (by omega)] at hF
    repeat' (first
     | (with_reducible first | refine t_seq fun K => ?_ | refine t_block ?_ | refine t_scope ?_ | refine t_label ?_ | refine t_skip ?_ | refine t_exit ?_ | refine t_ret ?_ | refine t_k ?_ | refine t_gF ?_ | exact kp_nil | exact Kp.refl _ | exact kp_to | refine kp_cons ?_ | refine kp_arr ?_ | refine kp_app ?_ | refine t_p ?_ | refine t_br (fun hc => ?_) fun hc => ?_)
     | ((with_reducible first | refine t_kE ?_ | refine t_kD ?_ | refine t_gS ?_ | refine t_kL ?_ | refine t_kLF ?_ ?_ | refine t_region fun K => ?_ | refine t_cond fun A B => ?_ | refine t_draw (by kernel_rfl) fun K => ?_); simp only [go_sem, geff, g3, Int.toNat_natCast, strs_length, con58_f])
     | ((with_reducible refine kp_skip ?_ ?_); rfl) | simp only [thenQ, blockQ, scopeQ, Nat.reduceEqDiff, reduceIte] | (with_reducible first | refine And.intro ?_ ?_ | intro vr))
    all_goals try (first | (with_reducible assumption) | (intros; (try simp only [Bool.and_eq_true, Bool.or_eq_true, Bool.or_eq_false_iff, Bool.not_eq_true', Bool.not_eq_false', decide_eq_true_eq, decide_eq_false_iff_not, beq_iff_eq, beq_eq_false_iff_ne, bne_iff_ne, bne_eq_false_iff_eq, ne_eq, inI64, List.length_append] at *) <;> omega))
    all_goals ((first | refine end_retE ?_ | refine end_normE ?_); simp only [fin, go_sem])
    exact LeA.of_eq (by rw [← hF]; rfl)
noncomputable def con55 : PCon Try.prog where
  f := 55
  c := fun
    | [.lit (.string op)] => some (True, .lit (.bool (isS op)))
    | _ => none
  ok := by
    intro args p r hc hp
    split at hc
    · cases hc; exact ris_pc
    · cases hc
  fk := fk55
theorem con55_f : con55.f = 55 := rfl
theorem con55_c {op : ByteArray} : con55.c [.lit (.string op)] = some (True, .lit (.bool (isS op))) := rfl
theorem sized_pc {op : ByteArray} : PC Try.prog 84 [.lit (.string op)] (.lit (.bool (sizedS op))) := by
  refine pc_ofR F1_ok mixed (fun _ => [0, 2]) (rs := [.tmp 2]) Try.func84 rfl (by kernel_rfl) (by kernel_rfl) (Nat.le_of_ble_eq_true rfl) ?_
  simp only [initF_cons, initF_nil, Nat.reduceAdd]
  refine t_name fun KF => ?_
  unfold F1
  repeat' (first
   | (with_reducible first | refine t_seq fun K => ?_ | refine t_block ?_ | refine t_scope ?_ | refine t_label ?_ | refine t_skip ?_ | refine t_exit ?_ | refine t_ret ?_ | refine t_k ?_ | refine t_gF ?_ | exact kp_nil | exact Kp.refl _ | exact kp_to | refine kp_cons ?_ | refine kp_arr ?_ | refine kp_app ?_ | refine t_p ?_ | refine t_br (fun hc => ?_) fun hc => ?_)
   | ((with_reducible first | refine t_kE ?_ | refine t_kD ?_ | refine t_gS ?_ | refine t_kL ?_ | refine t_kLF ?_ ?_ | refine t_region fun K => ?_ | refine t_cond fun A B => ?_ | refine t_draw (by kernel_rfl) fun K => ?_); simp only [go_sem, geff])
   | ((with_reducible refine kp_skip ?_ ?_); rfl) | simp only [thenQ, blockQ, scopeQ, Nat.reduceEqDiff, reduceIte] | (with_reducible first | refine And.intro ?_ ?_ | intro vr))
  all_goals try (first | (with_reducible assumption) | (intros; (try simp only [Bool.and_eq_true, Bool.or_eq_true, Bool.or_eq_false_iff, Bool.not_eq_true', Bool.not_eq_false', decide_eq_true_eq, decide_eq_false_iff_not, beq_iff_eq, beq_eq_false_iff_ne, bne_iff_ne, bne_eq_false_iff_eq, ne_eq, inI64, List.length_append] at *) <;> omega))
  all_goals ((first | refine end_retE ?_ | refine end_normE ?_); simp only [fin, go_sem])
  exact LeA.of_eq (by unfold sizedS; rfl)
noncomputable def con84 : PCon Try.prog where
  f := 84
  c := fun
    | [.lit (.string op)] => some (True, .lit (.bool (sizedS op)))
    | _ => none
  ok := by
    intro args p r hc hp
    split at hc
    · cases hc; exact sized_pc
    · cases hc
  fk := fk84
theorem con84_f : con84.f = 84 := rfl
theorem con84_c {op : ByteArray} : con84.c [.lit (.string op)] = some (True, .lit (.bool (sizedS op))) := rfl
set_option maxRecDepth 20000 in
set_option maxHeartbeats 8000000 in
theorem rranks_pc {op : ByteArray} {n : Int} : PC Try.prog 51 [.lit (.string op), .lit (.int .i64 n)] (rkV (ranksQ op n)) := by
  rcases op_cases op with rfl | rfl | rfl | rfl | rfl | rfl | rfl | rfl | rfl | rfl | rfl | rfl | rfl | hno
  · skip
    unfold ranksQ
    rw [opI_iota]
    refine pc_ofR F1_ok mixed (fun _ => [0, 1, 4, 5, 6, 7, 8, 10, 13, 20, 23, 27, 30, 33, 40, 46]) (rs := [.tmp 4, .tmp 5]) Try.func51 rfl (by kernel_rfl) (by kernel_rfl) (Nat.le_of_ble_eq_true rfl) ?_
    simp only [initF_cons, initF_nil, Nat.reduceAdd]
    refine t_name fun KF => ?_
    unfold F1
    repeat' (first
     | (with_reducible first | refine t_seq fun K => ?_ | refine t_block ?_ | refine t_scope ?_ | refine t_label ?_ | refine t_skip ?_ | refine t_exit ?_ | refine t_ret ?_ | refine t_k ?_ | refine t_gF ?_ | exact kp_nil | exact Kp.refl _ | exact kp_to | refine kp_cons ?_ | refine kp_arr ?_ | refine kp_app ?_ | refine t_p ?_ | refine t_br (fun hc => ?_) fun hc => ?_)
     | ((with_reducible first | refine t_kE ?_ | refine t_kD ?_ | refine t_gS ?_ | refine t_kL ?_ | refine t_kLF ?_ ?_ | refine t_region fun K => ?_ | refine t_cond fun A B => ?_ | refine t_draw (by kernel_rfl) fun K => ?_); simp only [go_sem, geff, z0_0, z0_1, z0_2, z0_3, z0_4, z0_5, z0_6, z0_7, z0_8, z0_9, z0_10, z0_11, z0_12, ints_replicate])
     | ((with_reducible refine kp_skip ?_ ?_); rfl) | simp only [thenQ, blockQ, scopeQ, Nat.reduceEqDiff, reduceIte] | (with_reducible first | refine And.intro ?_ ?_ | intro vr))
    all_goals try (first | (with_reducible assumption) | (intros; (try simp only [Bool.and_eq_true, Bool.or_eq_true, Bool.or_eq_false_iff, Bool.not_eq_true', Bool.not_eq_false', decide_eq_true_eq, decide_eq_false_iff_not, beq_iff_eq, beq_eq_false_iff_ne, bne_iff_ne, bne_eq_false_iff_eq, ne_eq, inI64, List.length_append] at *) <;> omega))
    all_goals ((first | refine end_retE ?_ | refine end_normE ?_); simp only [fin, go_sem])
    all_goals refine rk_of (by first | exact slK_sl | rfl) ?_
    all_goals simp only [rankL]
    all_goals (first | rfl | (simp_all; done) | (simp_all; omega) | (rw [if_neg (by simpa using hc)]))
  · skip
    unfold ranksQ
    rw [opI_fill]
    refine pc_ofR F1_ok mixed (fun _ => [0, 1, 4, 5, 6, 7, 8, 10, 13, 20, 23, 27, 30, 33, 40, 46]) (rs := [.tmp 4, .tmp 5]) Try.func51 rfl (by kernel_rfl) (by kernel_rfl) (Nat.le_of_ble_eq_true rfl) ?_
    simp only [initF_cons, initF_nil, Nat.reduceAdd]
    refine t_name fun KF => ?_
    unfold F1
    repeat' (first
     | (with_reducible first | refine t_seq fun K => ?_ | refine t_block ?_ | refine t_scope ?_ | refine t_label ?_ | refine t_skip ?_ | refine t_exit ?_ | refine t_ret ?_ | refine t_k ?_ | refine t_gF ?_ | exact kp_nil | exact Kp.refl _ | exact kp_to | refine kp_cons ?_ | refine kp_arr ?_ | refine kp_app ?_ | refine t_p ?_ | refine t_br (fun hc => ?_) fun hc => ?_)
     | ((with_reducible first | refine t_kE ?_ | refine t_kD ?_ | refine t_gS ?_ | refine t_kL ?_ | refine t_kLF ?_ ?_ | refine t_region fun K => ?_ | refine t_cond fun A B => ?_ | refine t_draw (by kernel_rfl) fun K => ?_); simp only [go_sem, geff, z1_0, z1_1, z1_2, z1_3, z1_4, z1_5, z1_6, z1_7, z1_8, z1_9, z1_10, z1_11, z1_12, ints_replicate])
     | ((with_reducible refine kp_skip ?_ ?_); rfl) | simp only [thenQ, blockQ, scopeQ, Nat.reduceEqDiff, reduceIte] | (with_reducible first | refine And.intro ?_ ?_ | intro vr))
    all_goals try (first | (with_reducible assumption) | (intros; (try simp only [Bool.and_eq_true, Bool.or_eq_true, Bool.or_eq_false_iff, Bool.not_eq_true', Bool.not_eq_false', decide_eq_true_eq, decide_eq_false_iff_not, beq_iff_eq, beq_eq_false_iff_ne, bne_iff_ne, bne_eq_false_iff_eq, ne_eq, inI64, List.length_append] at *) <;> omega))
    all_goals ((first | refine end_retE ?_ | refine end_normE ?_); simp only [fin, go_sem])
    all_goals refine rk_of (by first | exact slK_sl | rfl) ?_
    all_goals simp only [rankL]
    all_goals (first | rfl | (simp_all; done) | (simp_all; omega) | (rw [if_neg (by simpa using hc)]))
  · skip
    unfold ranksQ
    rw [opI_take]
    refine pc_ofR F1_ok mixed (fun _ => [0, 1, 4, 5, 6, 7, 8, 10, 13, 20, 23, 27, 30, 33, 40, 46]) (rs := [.tmp 4, .tmp 5]) Try.func51 rfl (by kernel_rfl) (by kernel_rfl) (Nat.le_of_ble_eq_true rfl) ?_
    simp only [initF_cons, initF_nil, Nat.reduceAdd]
    refine t_name fun KF => ?_
    unfold F1
    repeat' (first
     | (with_reducible first | refine t_seq fun K => ?_ | refine t_block ?_ | refine t_scope ?_ | refine t_label ?_ | refine t_skip ?_ | refine t_exit ?_ | refine t_ret ?_ | refine t_k ?_ | refine t_gF ?_ | exact kp_nil | exact Kp.refl _ | exact kp_to | refine kp_cons ?_ | refine kp_arr ?_ | refine kp_app ?_ | refine t_p ?_ | refine t_br (fun hc => ?_) fun hc => ?_)
     | ((with_reducible first | refine t_kE ?_ | refine t_kD ?_ | refine t_gS ?_ | refine t_kL ?_ | refine t_kLF ?_ ?_ | refine t_region fun K => ?_ | refine t_cond fun A B => ?_ | refine t_draw (by kernel_rfl) fun K => ?_); simp only [go_sem, geff, z2_0, z2_1, z2_2, z2_3, z2_4, z2_5, z2_6, z2_7, z2_8, z2_9, z2_10, z2_11, z2_12, ints_replicate])
     | ((with_reducible refine kp_skip ?_ ?_); rfl) | simp only [thenQ, blockQ, scopeQ, Nat.reduceEqDiff, reduceIte] | (with_reducible first | refine And.intro ?_ ?_ | intro vr))
    all_goals try (first | (with_reducible assumption) | (intros; (try simp only [Bool.and_eq_true, Bool.or_eq_true, Bool.or_eq_false_iff, Bool.not_eq_true', Bool.not_eq_false', decide_eq_true_eq, decide_eq_false_iff_not, beq_iff_eq, beq_eq_false_iff_ne, bne_iff_ne, bne_eq_false_iff_eq, ne_eq, inI64, List.length_append] at *) <;> omega))
    all_goals ((first | refine end_retE ?_ | refine end_normE ?_); simp only [fin, go_sem])
    all_goals refine rk_of (by first | exact slK_sl | rfl) ?_
    all_goals simp only [rankL]
    all_goals (first | rfl | (simp_all; done) | (simp_all; omega) | (rw [if_neg (by simpa using hc)]))
  · skip
    unfold ranksQ
    rw [opI_drop]
    refine pc_ofR F1_ok mixed (fun _ => [0, 1, 4, 5, 6, 7, 8, 10, 13, 20, 23, 27, 30, 33, 40, 46]) (rs := [.tmp 4, .tmp 5]) Try.func51 rfl (by kernel_rfl) (by kernel_rfl) (Nat.le_of_ble_eq_true rfl) ?_
    simp only [initF_cons, initF_nil, Nat.reduceAdd]
    refine t_name fun KF => ?_
    unfold F1
    repeat' (first
     | (with_reducible first | refine t_seq fun K => ?_ | refine t_block ?_ | refine t_scope ?_ | refine t_label ?_ | refine t_skip ?_ | refine t_exit ?_ | refine t_ret ?_ | refine t_k ?_ | refine t_gF ?_ | exact kp_nil | exact Kp.refl _ | exact kp_to | refine kp_cons ?_ | refine kp_arr ?_ | refine kp_app ?_ | refine t_p ?_ | refine t_br (fun hc => ?_) fun hc => ?_)
     | ((with_reducible first | refine t_kE ?_ | refine t_kD ?_ | refine t_gS ?_ | refine t_kL ?_ | refine t_kLF ?_ ?_ | refine t_region fun K => ?_ | refine t_cond fun A B => ?_ | refine t_draw (by kernel_rfl) fun K => ?_); simp only [go_sem, geff, z3_0, z3_1, z3_2, z3_3, z3_4, z3_5, z3_6, z3_7, z3_8, z3_9, z3_10, z3_11, z3_12, ints_replicate])
     | ((with_reducible refine kp_skip ?_ ?_); rfl) | simp only [thenQ, blockQ, scopeQ, Nat.reduceEqDiff, reduceIte] | (with_reducible first | refine And.intro ?_ ?_ | intro vr))
    all_goals try (first | (with_reducible assumption) | (intros; (try simp only [Bool.and_eq_true, Bool.or_eq_true, Bool.or_eq_false_iff, Bool.not_eq_true', Bool.not_eq_false', decide_eq_true_eq, decide_eq_false_iff_not, beq_iff_eq, beq_eq_false_iff_ne, bne_iff_ne, bne_eq_false_iff_eq, ne_eq, inI64, List.length_append] at *) <;> omega))
    all_goals ((first | refine end_retE ?_ | refine end_normE ?_); simp only [fin, go_sem])
    all_goals refine rk_of (by first | exact slK_sl | rfl) ?_
    all_goals simp only [rankL]
    all_goals (first | rfl | (simp_all; done) | (simp_all; omega) | (rw [if_neg (by simpa using hc)]))
  · skip
    unfold ranksQ
    rw [opI_reverse]
    refine pc_ofR F1_ok mixed (fun _ => [0, 1, 4, 5, 6, 7, 8, 10, 13, 20, 23, 27, 30, 33, 40, 46]) (rs := [.tmp 4, .tmp 5]) Try.func51 rfl (by kernel_rfl) (by kernel_rfl) (Nat.le_of_ble_eq_true rfl) ?_
    simp only [initF_cons, initF_nil, Nat.reduceAdd]
    refine t_name fun KF => ?_
    unfold F1
    repeat' (first
     | (with_reducible first | refine t_seq fun K => ?_ | refine t_block ?_ | refine t_scope ?_ | refine t_label ?_ | refine t_skip ?_ | refine t_exit ?_ | refine t_ret ?_ | refine t_k ?_ | refine t_gF ?_ | exact kp_nil | exact Kp.refl _ | exact kp_to | refine kp_cons ?_ | refine kp_arr ?_ | refine kp_app ?_ | refine t_p ?_ | refine t_br (fun hc => ?_) fun hc => ?_)
     | ((with_reducible first | refine t_kE ?_ | refine t_kD ?_ | refine t_gS ?_ | refine t_kL ?_ | refine t_kLF ?_ ?_ | refine t_region fun K => ?_ | refine t_cond fun A B => ?_ | refine t_draw (by kernel_rfl) fun K => ?_); simp only [go_sem, geff, z4_0, z4_1, z4_2, z4_3, z4_4, z4_5, z4_6, z4_7, z4_8, z4_9, z4_10, z4_11, z4_12, ints_replicate])
     | ((with_reducible refine kp_skip ?_ ?_); rfl) | simp only [thenQ, blockQ, scopeQ, Nat.reduceEqDiff, reduceIte] | (with_reducible first | refine And.intro ?_ ?_ | intro vr))
    all_goals try (first | (with_reducible assumption) | (intros; (try simp only [Bool.and_eq_true, Bool.or_eq_true, Bool.or_eq_false_iff, Bool.not_eq_true', Bool.not_eq_false', decide_eq_true_eq, decide_eq_false_iff_not, beq_iff_eq, beq_eq_false_iff_ne, bne_iff_ne, bne_eq_false_iff_eq, ne_eq, inI64, List.length_append] at *) <;> omega))
    all_goals ((first | refine end_retE ?_ | refine end_normE ?_); simp only [fin, go_sem])
    all_goals refine rk_of (by first | exact slK_sl | rfl) ?_
    all_goals simp only [rankL]
    all_goals (first | rfl | (simp_all; done) | (simp_all; omega) | (rw [if_neg (by simpa using hc)]))
  · skip
    unfold ranksQ
    rw [opI_append]
    refine pc_ofR F1_ok mixed (fun _ => [0, 1, 4, 5, 6, 7, 8, 10, 13, 20, 23, 27, 30, 33, 40, 46]) (rs := [.tmp 4, .tmp 5]) Try.func51 rfl (by kernel_rfl) (by kernel_rfl) (Nat.le_of_ble_eq_true rfl) ?_
    simp only [initF_cons, initF_nil, Nat.reduceAdd]
    refine t_name fun KF => ?_
    unfold F1
    repeat' (first
     | (with_reducible first | refine t_seq fun K => ?_ | refine t_block ?_ | refine t_scope ?_ | refine t_label ?_ | refine t_skip ?_ | refine t_exit ?_ | refine t_ret ?_ | refine t_k ?_ | refine t_gF ?_ | exact kp_nil | exact Kp.refl _ | exact kp_to | refine kp_cons ?_ | refine kp_arr ?_ | refine kp_app ?_ | refine t_p ?_ | refine t_br (fun hc => ?_) fun hc => ?_)
     | ((with_reducible first | refine t_kE ?_ | refine t_kD ?_ | refine t_gS ?_ | refine t_kL ?_ | refine t_kLF ?_ ?_ | refine t_region fun K => ?_ | refine t_cond fun A B => ?_ | refine t_draw (by kernel_rfl) fun K => ?_); simp only [go_sem, geff, z5_0, z5_1, z5_2, z5_3, z5_4, z5_5, z5_6, z5_7, z5_8, z5_9, z5_10, z5_11, z5_12, ints_replicate])
     | ((with_reducible refine kp_skip ?_ ?_); rfl) | simp only [thenQ, blockQ, scopeQ, Nat.reduceEqDiff, reduceIte] | (with_reducible first | refine And.intro ?_ ?_ | intro vr))
    all_goals try (first | (with_reducible assumption) | (intros; (try simp only [Bool.and_eq_true, Bool.or_eq_true, Bool.or_eq_false_iff, Bool.not_eq_true', Bool.not_eq_false', decide_eq_true_eq, decide_eq_false_iff_not, beq_iff_eq, beq_eq_false_iff_ne, bne_iff_ne, bne_eq_false_iff_eq, ne_eq, inI64, List.length_append] at *) <;> omega))
    all_goals ((first | refine end_retE ?_ | refine end_normE ?_); simp only [fin, go_sem])
    all_goals refine rk_of (by first | exact slK_sl | rfl) ?_
    all_goals simp only [rankL]
    all_goals (first | rfl | (simp_all; done) | (simp_all; omega) | (rw [if_neg (by simpa using hc)]))
  · skip
    unfold ranksQ
    rw [opI_transpose]
    refine pc_ofR F1_ok mixed (fun _ => [0, 1, 4, 5, 6, 7, 8, 10, 13, 20, 23, 27, 30, 33, 40, 46]) (rs := [.tmp 4, .tmp 5]) Try.func51 rfl (by kernel_rfl) (by kernel_rfl) (Nat.le_of_ble_eq_true rfl) ?_
    simp only [initF_cons, initF_nil, Nat.reduceAdd]
    refine t_name fun KF => ?_
    unfold F1
    repeat' (first
     | (with_reducible first | refine t_seq fun K => ?_ | refine t_block ?_ | refine t_scope ?_ | refine t_label ?_ | refine t_skip ?_ | refine t_exit ?_ | refine t_ret ?_ | refine t_k ?_ | refine t_gF ?_ | exact kp_nil | exact Kp.refl _ | exact kp_to | refine kp_cons ?_ | refine kp_arr ?_ | refine kp_app ?_ | refine t_p ?_ | refine t_br (fun hc => ?_) fun hc => ?_)
     | ((with_reducible first | refine t_kE ?_ | refine t_kD ?_ | refine t_gS ?_ | refine t_kL ?_ | refine t_kLF ?_ ?_ | refine t_region fun K => ?_ | refine t_cond fun A B => ?_ | refine t_draw (by kernel_rfl) fun K => ?_); simp only [go_sem, geff, z6_0, z6_1, z6_2, z6_3, z6_4, z6_5, z6_6, z6_7, z6_8, z6_9, z6_10, z6_11, z6_12, ints_replicate])
     | ((with_reducible refine kp_skip ?_ ?_); rfl) | simp only [thenQ, blockQ, scopeQ, Nat.reduceEqDiff, reduceIte] | (with_reducible first | refine And.intro ?_ ?_ | intro vr))
    all_goals try (first | (with_reducible assumption) | (intros; (try simp only [Bool.and_eq_true, Bool.or_eq_true, Bool.or_eq_false_iff, Bool.not_eq_true', Bool.not_eq_false', decide_eq_true_eq, decide_eq_false_iff_not, beq_iff_eq, beq_eq_false_iff_ne, bne_iff_ne, bne_eq_false_iff_eq, ne_eq, inI64, List.length_append] at *) <;> omega))
    all_goals ((first | refine end_retE ?_ | refine end_normE ?_); simp only [fin, go_sem])
    all_goals refine rk_of (by first | exact slK_sl | rfl) ?_
    all_goals simp only [rankL]
    all_goals (first | rfl | (simp_all; done) | (simp_all; omega) | (rw [if_neg (by simpa using hc)]))
  · skip
    unfold ranksQ
    rw [opI_diagonal]
    refine pc_ofR F1_ok mixed (fun _ => [0, 1, 4, 5, 6, 7, 8, 10, 13, 20, 23, 27, 30, 33, 40, 46]) (rs := [.tmp 4, .tmp 5]) Try.func51 rfl (by kernel_rfl) (by kernel_rfl) (Nat.le_of_ble_eq_true rfl) ?_
    simp only [initF_cons, initF_nil, Nat.reduceAdd]
    refine t_name fun KF => ?_
    unfold F1
    repeat' (first
     | (with_reducible first | refine t_seq fun K => ?_ | refine t_block ?_ | refine t_scope ?_ | refine t_label ?_ | refine t_skip ?_ | refine t_exit ?_ | refine t_ret ?_ | refine t_k ?_ | refine t_gF ?_ | exact kp_nil | exact Kp.refl _ | exact kp_to | refine kp_cons ?_ | refine kp_arr ?_ | refine kp_app ?_ | refine t_p ?_ | refine t_br (fun hc => ?_) fun hc => ?_)
     | ((with_reducible first | refine t_kE ?_ | refine t_kD ?_ | refine t_gS ?_ | refine t_kL ?_ | refine t_kLF ?_ ?_ | refine t_region fun K => ?_ | refine t_cond fun A B => ?_ | refine t_draw (by kernel_rfl) fun K => ?_); simp only [go_sem, geff, z7_0, z7_1, z7_2, z7_3, z7_4, z7_5, z7_6, z7_7, z7_8, z7_9, z7_10, z7_11, z7_12, ints_replicate])
     | ((with_reducible refine kp_skip ?_ ?_); rfl) | simp only [thenQ, blockQ, scopeQ, Nat.reduceEqDiff, reduceIte] | (with_reducible first | refine And.intro ?_ ?_ | intro vr))
    all_goals try (first | (with_reducible assumption) | (intros; (try simp only [Bool.and_eq_true, Bool.or_eq_true, Bool.or_eq_false_iff, Bool.not_eq_true', Bool.not_eq_false', decide_eq_true_eq, decide_eq_false_iff_not, beq_iff_eq, beq_eq_false_iff_ne, bne_iff_ne, bne_eq_false_iff_eq, ne_eq, inI64, List.length_append] at *) <;> omega))
    all_goals ((first | refine end_retE ?_ | refine end_normE ?_); simp only [fin, go_sem])
    all_goals refine rk_of (by first | exact slK_sl | rfl) ?_
    all_goals simp only [rankL]
    all_goals (first | rfl | (simp_all; done) | (simp_all; omega) | (rw [if_neg (by simpa using hc)]))
  · skip
    unfold ranksQ
    rw [opI_windows]
    refine pc_ofR F1_ok mixed (fun _ => [0, 1, 4, 5, 6, 7, 8, 10, 13, 20, 23, 27, 30, 33, 40, 46]) (rs := [.tmp 4, .tmp 5]) Try.func51 rfl (by kernel_rfl) (by kernel_rfl) (Nat.le_of_ble_eq_true rfl) ?_
    simp only [initF_cons, initF_nil, Nat.reduceAdd]
    refine t_name fun KF => ?_
    unfold F1
    repeat' (first
     | (with_reducible first | refine t_seq fun K => ?_ | refine t_block ?_ | refine t_scope ?_ | refine t_label ?_ | refine t_skip ?_ | refine t_exit ?_ | refine t_ret ?_ | refine t_k ?_ | refine t_gF ?_ | exact kp_nil | exact Kp.refl _ | exact kp_to | refine kp_cons ?_ | refine kp_arr ?_ | refine kp_app ?_ | refine t_p ?_ | refine t_br (fun hc => ?_) fun hc => ?_)
     | ((with_reducible first | refine t_kE ?_ | refine t_kD ?_ | refine t_gS ?_ | refine t_kL ?_ | refine t_kLF ?_ ?_ | refine t_region fun K => ?_ | refine t_cond fun A B => ?_ | refine t_draw (by kernel_rfl) fun K => ?_); simp only [go_sem, geff, z8_0, z8_1, z8_2, z8_3, z8_4, z8_5, z8_6, z8_7, z8_8, z8_9, z8_10, z8_11, z8_12, ints_replicate])
     | ((with_reducible refine kp_skip ?_ ?_); rfl) | simp only [thenQ, blockQ, scopeQ, Nat.reduceEqDiff, reduceIte] | (with_reducible first | refine And.intro ?_ ?_ | intro vr))
    all_goals try (first | (with_reducible assumption) | (intros; (try simp only [Bool.and_eq_true, Bool.or_eq_true, Bool.or_eq_false_iff, Bool.not_eq_true', Bool.not_eq_false', decide_eq_true_eq, decide_eq_false_iff_not, beq_iff_eq, beq_eq_false_iff_ne, bne_iff_ne, bne_eq_false_iff_eq, ne_eq, inI64, List.length_append] at *) <;> omega))
    all_goals ((first | refine end_retE ?_ | refine end_normE ?_); simp only [fin, go_sem])
    all_goals refine rk_of (by first | exact slK_sl | rfl) ?_
    all_goals simp only [rankL]
    all_goals (first | rfl | (simp_all; done) | (simp_all; omega) | (rw [if_neg (by simpa using hc)]))
  · skip
    unfold ranksQ
    rw [opI_chunk]
    refine pc_ofR F1_ok mixed (fun _ => [0, 1, 4, 5, 6, 7, 8, 10, 13, 20, 23, 27, 30, 33, 40, 46]) (rs := [.tmp 4, .tmp 5]) Try.func51 rfl (by kernel_rfl) (by kernel_rfl) (Nat.le_of_ble_eq_true rfl) ?_
    simp only [initF_cons, initF_nil, Nat.reduceAdd]
    refine t_name fun KF => ?_
    unfold F1
    repeat' (first
     | (with_reducible first | refine t_seq fun K => ?_ | refine t_block ?_ | refine t_scope ?_ | refine t_label ?_ | refine t_skip ?_ | refine t_exit ?_ | refine t_ret ?_ | refine t_k ?_ | refine t_gF ?_ | exact kp_nil | exact Kp.refl _ | exact kp_to | refine kp_cons ?_ | refine kp_arr ?_ | refine kp_app ?_ | refine t_p ?_ | refine t_br (fun hc => ?_) fun hc => ?_)
     | ((with_reducible first | refine t_kE ?_ | refine t_kD ?_ | refine t_gS ?_ | refine t_kL ?_ | refine t_kLF ?_ ?_ | refine t_region fun K => ?_ | refine t_cond fun A B => ?_ | refine t_draw (by kernel_rfl) fun K => ?_); simp only [go_sem, geff, z9_0, z9_1, z9_2, z9_3, z9_4, z9_5, z9_6, z9_7, z9_8, z9_9, z9_10, z9_11, z9_12, ints_replicate])
     | ((with_reducible refine kp_skip ?_ ?_); rfl) | simp only [thenQ, blockQ, scopeQ, Nat.reduceEqDiff, reduceIte] | (with_reducible first | refine And.intro ?_ ?_ | intro vr))
    all_goals try (first | (with_reducible assumption) | (intros; (try simp only [Bool.and_eq_true, Bool.or_eq_true, Bool.or_eq_false_iff, Bool.not_eq_true', Bool.not_eq_false', decide_eq_true_eq, decide_eq_false_iff_not, beq_iff_eq, beq_eq_false_iff_ne, bne_iff_ne, bne_eq_false_iff_eq, ne_eq, inI64, List.length_append] at *) <;> omega))
    all_goals ((first | refine end_retE ?_ | refine end_normE ?_); simp only [fin, go_sem])
    all_goals refine rk_of (by first | exact slK_sl | rfl) ?_
    all_goals simp only [rankL]
    all_goals (first | rfl | (simp_all; done) | (simp_all; omega) | (rw [if_neg (by simpa using hc)]))
  · skip
    unfold ranksQ
    rw [opI_index]
    refine pc_ofR F1_ok mixed (fun _ => [0, 1, 4, 5, 6, 7, 8, 10, 13, 20, 23, 27, 30, 33, 40, 46]) (rs := [.tmp 4, .tmp 5]) Try.func51 rfl (by kernel_rfl) (by kernel_rfl) (Nat.le_of_ble_eq_true rfl) ?_
    simp only [initF_cons, initF_nil, Nat.reduceAdd]
    refine t_name fun KF => ?_
    unfold F1
    repeat' (first
     | (with_reducible first | refine t_seq fun K => ?_ | refine t_block ?_ | refine t_scope ?_ | refine t_label ?_ | refine t_skip ?_ | refine t_exit ?_ | refine t_ret ?_ | refine t_k ?_ | refine t_gF ?_ | exact kp_nil | exact Kp.refl _ | exact kp_to | refine kp_cons ?_ | refine kp_arr ?_ | refine kp_app ?_ | refine t_p ?_ | refine t_br (fun hc => ?_) fun hc => ?_)
     | ((with_reducible first | refine t_kE ?_ | refine t_kD ?_ | refine t_gS ?_ | refine t_kL ?_ | refine t_kLF ?_ ?_ | refine t_region fun K => ?_ | refine t_cond fun A B => ?_ | refine t_draw (by kernel_rfl) fun K => ?_); simp only [go_sem, geff, z10_0, z10_1, z10_2, z10_3, z10_4, z10_5, z10_6, z10_7, z10_8, z10_9, z10_10, z10_11, z10_12, ints_replicate])
     | ((with_reducible refine kp_skip ?_ ?_); rfl) | simp only [thenQ, blockQ, scopeQ, Nat.reduceEqDiff, reduceIte] | (with_reducible first | refine And.intro ?_ ?_ | intro vr))
    all_goals try (first | (with_reducible assumption) | (intros; (try simp only [Bool.and_eq_true, Bool.or_eq_true, Bool.or_eq_false_iff, Bool.not_eq_true', Bool.not_eq_false', decide_eq_true_eq, decide_eq_false_iff_not, beq_iff_eq, beq_eq_false_iff_ne, bne_iff_ne, bne_eq_false_iff_eq, ne_eq, inI64, List.length_append] at *) <;> omega))
    all_goals ((first | refine end_retE ?_ | refine end_normE ?_); simp only [fin, go_sem])
    all_goals refine rk_of (by first | exact slK_sl | rfl) ?_
    all_goals simp only [rankL]
    all_goals (first | rfl | (simp_all; done) | (simp_all; omega) | (rw [if_neg (by simpa using hc)]))
  · skip
    unfold ranksQ
    rw [opI_update]
    refine pc_ofR F1_ok mixed (fun _ => [0, 1, 4, 5, 6, 7, 8, 10, 13, 20, 23, 27, 30, 33, 40, 46]) (rs := [.tmp 4, .tmp 5]) Try.func51 rfl (by kernel_rfl) (by kernel_rfl) (Nat.le_of_ble_eq_true rfl) ?_
    simp only [initF_cons, initF_nil, Nat.reduceAdd]
    refine t_name fun KF => ?_
    unfold F1
    repeat' (first
     | (with_reducible first | refine t_seq fun K => ?_ | refine t_block ?_ | refine t_scope ?_ | refine t_label ?_ | refine t_skip ?_ | refine t_exit ?_ | refine t_ret ?_ | refine t_k ?_ | refine t_gF ?_ | exact kp_nil | exact Kp.refl _ | exact kp_to | refine kp_cons ?_ | refine kp_arr ?_ | refine kp_app ?_ | refine t_p ?_ | refine t_br (fun hc => ?_) fun hc => ?_)
     | ((with_reducible first | refine t_kE ?_ | refine t_kD ?_ | refine t_gS ?_ | refine t_kL ?_ | refine t_kLF ?_ ?_ | refine t_region fun K => ?_ | refine t_cond fun A B => ?_ | refine t_draw (by kernel_rfl) fun K => ?_); simp only [go_sem, geff, z11_0, z11_1, z11_2, z11_3, z11_4, z11_5, z11_6, z11_7, z11_8, z11_9, z11_10, z11_11, z11_12, ints_replicate])
     | ((with_reducible refine kp_skip ?_ ?_); rfl) | simp only [thenQ, blockQ, scopeQ, Nat.reduceEqDiff, reduceIte] | (with_reducible first | refine And.intro ?_ ?_ | intro vr))
    all_goals try (first | (with_reducible assumption) | (intros; (try simp only [Bool.and_eq_true, Bool.or_eq_true, Bool.or_eq_false_iff, Bool.not_eq_true', Bool.not_eq_false', decide_eq_true_eq, decide_eq_false_iff_not, beq_iff_eq, beq_eq_false_iff_ne, bne_iff_ne, bne_eq_false_iff_eq, ne_eq, inI64, List.length_append] at *) <;> omega))
    all_goals ((first | refine end_retE ?_ | refine end_normE ?_); simp only [fin, go_sem])
    all_goals refine rk_of (by first | exact slK_sl | rfl) ?_
    all_goals simp only [rankL]
    all_goals (first | rfl | (simp_all; done) | (simp_all; omega) | (rw [if_neg (by simpa using hc)]))
  · skip
    unfold ranksQ
    rw [opI_pack]
    refine pc_ofR F1_ok mixed (fun _ => [0, 1, 4, 5, 6, 7, 8, 10, 13, 20, 23, 27, 30, 33, 40, 46]) (rs := [.tmp 4, .tmp 5]) Try.func51 rfl (by kernel_rfl) (by kernel_rfl) (Nat.le_of_ble_eq_true rfl) ?_
    simp only [initF_cons, initF_nil, Nat.reduceAdd]
    refine t_name fun KF => ?_
    unfold F1
    repeat' (first
     | (with_reducible first | refine t_seq fun K => ?_ | refine t_block ?_ | refine t_scope ?_ | refine t_label ?_ | refine t_skip ?_ | refine t_exit ?_ | refine t_ret ?_ | refine t_k ?_ | refine t_gF ?_ | exact kp_nil | exact Kp.refl _ | exact kp_to | refine kp_cons ?_ | refine kp_arr ?_ | refine kp_app ?_ | refine t_p ?_ | refine t_br (fun hc => ?_) fun hc => ?_)
     | ((with_reducible first | refine t_kE ?_ | refine t_kD ?_ | refine t_gS ?_ | refine t_kL ?_ | refine t_kLF ?_ ?_ | refine t_region fun K => ?_ | refine t_cond fun A B => ?_ | refine t_draw (by kernel_rfl) fun K => ?_); simp only [go_sem, geff, z12_0, z12_1, z12_2, z12_3, z12_4, z12_5, z12_6, z12_7, z12_8, z12_9, z12_10, z12_11, z12_12, ints_replicate])
     | ((with_reducible refine kp_skip ?_ ?_); rfl) | simp only [thenQ, blockQ, scopeQ, Nat.reduceEqDiff, reduceIte] | (with_reducible first | refine And.intro ?_ ?_ | intro vr))
    all_goals try (first | (with_reducible assumption) | (intros; (try simp only [Bool.and_eq_true, Bool.or_eq_true, Bool.or_eq_false_iff, Bool.not_eq_true', Bool.not_eq_false', decide_eq_true_eq, decide_eq_false_iff_not, beq_iff_eq, beq_eq_false_iff_ne, bne_iff_ne, bne_eq_false_iff_eq, ne_eq, inI64, List.length_append] at *) <;> omega))
    all_goals ((first | refine end_retE ?_ | refine end_normE ?_); simp only [fin, go_sem])
    all_goals refine rk_of (by first | exact slK_sl | rfl) ?_
    all_goals simp only [rankL]
    all_goals (first | rfl | (simp_all; done) | (simp_all; omega) | (rw [if_neg (by simpa using hc)]))
  · obtain ⟨q0, q1, q2, q3, q4, q5, q6, q7, q8, q9, q10, q11, q12⟩ := hno
    unfold ranksQ
    rw [opI_no ⟨q0, q1, q2, q3, q4, q5, q6, q7, q8, q9, q10, q11, q12⟩]
    refine pc_ofR F1_ok mixed (fun _ => [0, 1, 4, 5, 6, 7, 8, 10, 13, 20, 23, 27, 30, 33, 40, 46]) (rs := [.tmp 4, .tmp 5]) Try.func51 rfl (by kernel_rfl) (by kernel_rfl) (Nat.le_of_ble_eq_true rfl) ?_
    simp only [initF_cons, initF_nil, Nat.reduceAdd]
    refine t_name fun KF => ?_
    unfold F1
    repeat' (first
     | (with_reducible first | refine t_seq fun K => ?_ | refine t_block ?_ | refine t_scope ?_ | refine t_label ?_ | refine t_skip ?_ | refine t_exit ?_ | refine t_ret ?_ | refine t_k ?_ | refine t_gF ?_ | exact kp_nil | exact Kp.refl _ | exact kp_to | refine kp_cons ?_ | refine kp_arr ?_ | refine kp_app ?_ | refine t_p ?_ | refine t_br (fun hc => ?_) fun hc => ?_)
     | ((with_reducible first | refine t_kE ?_ | refine t_kD ?_ | refine t_gS ?_ | refine t_kL ?_ | refine t_kLF ?_ ?_ | refine t_region fun K => ?_ | refine t_cond fun A B => ?_ | refine t_draw (by kernel_rfl) fun K => ?_); simp only [go_sem, geff, q0, q1, q2, q3, q4, q5, q6, q7, q8, q9, q10, q11, q12, ints_replicate])
     | ((with_reducible refine kp_skip ?_ ?_); rfl) | simp only [thenQ, blockQ, scopeQ, Nat.reduceEqDiff, reduceIte] | (with_reducible first | refine And.intro ?_ ?_ | intro vr))
    all_goals try (first | (with_reducible assumption) | (intros; (try simp only [Bool.and_eq_true, Bool.or_eq_true, Bool.or_eq_false_iff, Bool.not_eq_true', Bool.not_eq_false', decide_eq_true_eq, decide_eq_false_iff_not, beq_iff_eq, beq_eq_false_iff_ne, bne_iff_ne, bne_eq_false_iff_eq, ne_eq, inI64, List.length_append] at *) <;> omega))
    all_goals ((first | refine end_retE ?_ | refine end_normE ?_); simp only [fin, go_sem])
    all_goals refine rk_of (by first | exact slK_sl | rfl) ?_
    all_goals simp only [rankL]
    all_goals (first | rfl | (simp_all; done) | (simp_all; omega) | (rw [if_neg (by simpa using hc)]))
noncomputable def con51 : PCon Try.prog where
  f := 51
  c := fun
    | [.lit (.string op), .lit (.int .i64 n)] => some (True, rkV (ranksQ op n))
    | _ => none
  ok := by
    intro args p r hc hp
    split at hc
    · cases hc; exact rranks_pc
    · cases hc
  fk := fk51
theorem con51_f : con51.f = 51 := rfl
theorem con51_c {op : ByteArray} {n : Int} : con51.c [.lit (.string op), .lit (.int .i64 n)] = some (True, rkV (ranksQ op n)) := rfl
end Go.Proofs.Ytjlcbojpiieafaa

/- The checks of the reference are those of given. -/
namespace Go.Proofs.Ytjlcbojpiieafaa
open Go Go.Fw

def rightS (op : ByteArray) (ns num n : Int) : Int := if isS op = false then 7 else if (ranksQ op n).2 = false ∨ ns ≠ (if sizedS op = true then 1 else 0) ∨ (num ≠ 0 ∧ eqS op n_chunk = false) then 1 else 0
noncomputable def G2 : Env := envJ (P := Try.prog) jk2 zer (fun _ => false) (fun _ => true) [con51, con55, con84] []
theorem G2_ok : EnvOk Try.prog G2 := envJOk zer_ok
set_option maxHeartbeats 2000000 in
theorem right_pc {op : ByteArray} {ns : List Int} {num n : Int} : PC Try.prog 76 [.lit (.string op), .sl false 1 (ints .i64 ns), .lit (.int .i64 num), .lit (.int .i64 n)] (.lit (.int .i64 (rightS op ns.length num n))) := by
  generalize hR : rightS op ns.length num n = R
  unfold rightS n_chunk at hR
  refine pc_ofR G2_ok mixed (fun _ => [0, 1, 2, 3, 8, 9, 11, 14, 16, 38]) (rs := [.tmp 8]) Try.func76 rfl (by kernel_rfl) (by kernel_rfl) (Nat.le_of_ble_eq_true rfl) ?_
  simp only [initF_cons, initF_nil, Nat.reduceAdd]
  refine t_name fun KF => ?_
  unfold G2
  repeat' (first
    | with_reducible refine t_seq fun K => ?_
    | with_reducible refine t_block ?_
    | with_reducible refine t_scope ?_
    | with_reducible refine t_label ?_
    | with_reducible refine t_skip ?_
    | with_reducible refine t_exit ?_
    | with_reducible refine t_ret ?_
    | with_reducible refine t_k ?_
    | (with_reducible refine t_gF ?_)
    | ((first | with_reducible refine t_kE ?_ | with_reducible refine t_kD ?_ | with_reducible refine t_gS ?_ | with_reducible refine t_kL ?_ | (with_reducible refine t_kLE ?_ ?_; rotate_left) | with_reducible refine t_region fun K => ?_ | with_reducible refine t_draw (by kernel_rfl) fun K => ?_); simp only [go_sem, geff_true, geff_false, con51_f, con55_f, con84_f, con51_c, con55_c, con84_c, rkV_def])
    | (with_reducible exact kp_nil)
    | (with_reducible exact Kp.refl _)
    | (with_reducible exact kp_to)
    | (with_reducible refine kp_cons ?_)
    | (with_reducible refine kp_arr ?_)
    | (with_reducible refine kp_app ?_)
    | ((with_reducible refine kp_skip ?_ ?_); rfl)
    | ((with_reducible refine t_cond fun A B => ?_); simp only [go_sem, geff_true, geff_false, con51_f, con55_f, con84_f, con51_c, con55_c, con84_c, rkV_def]; first | (with_reducible refine A.h ?_) | (with_reducible refine B.h ?_) | (refine And.intro (fun hc => A.h ?_) (fun hc => B.h ?_)))
    | ((with_reducible refine t_geffS (fun hg => ?_) (fun hg => ?_)) <;> ((try simp only [Bool.not_eq_true', Bool.not_eq_false', Bool.and_eq_true, Bool.or_eq_false_iff] at hg); simp only [hg, go_sem, geff_true, geff_false, con51_f, con55_f, con84_f, con51_c, con55_c, con84_c, rkV_def]))
    | simp only [thenQ_n, thenQ_r, thenQ_e, blockQ_n, blockQ_r, blockQ_e, scopeQ_n, scopeQ_r, scopeQ_e, Nat.reduceEqDiff, reduceIte]
    | (with_reducible refine And.intro ?_ ?_)
    | with_reducible intro vr)
  all_goals try (first | (with_reducible assumption) | (intros; (try simp only [Bool.and_eq_true, Bool.or_eq_true, Bool.or_eq_false_iff, Bool.not_eq_true', Bool.not_eq_false', decide_eq_true_eq, decide_eq_false_iff_not, beq_iff_eq, beq_eq_false_iff_ne, bne_iff_ne, bne_eq_false_iff_eq, ne_eq, inI64, List.length_append] at *) <;> omega))
  all_goals ((first | refine end_retE ?_ | refine end_normE ?_); simp only [fin, go_sem])
  all_goals refine LeA.of_eq ?_
  all_goals rw [← hR]
  all_goals simp_all
theorem packG : findG ents n_pack = none := rfl
theorem right_eq {op : ByteArray} {ns num n : Int} (h0 : 0 ≤ n) (hn : n ≤ 4096) : rightS op ns num n = (givenS op ns num n).2 := by
  rcases op_cases op with rfl | rfl | rfl | rfl | rfl | rfl | rfl | rfl | rfl | rfl | rfl | rfl | rfl | hno
  · have e1 : isS n_iota = true := rfl
    have e2 : findS n_iota n = (ents.getD 0 ent0, true) := rfl
    have e3 : sizedS n_iota = true := rfl
    have e4 : eqS n_iota n_chunk = false := rfl
    unfold rightS givenS ranksQ
    rw [e1, e2, e3, e4, opI_iota]
    simp only [rankL, ents, List.getD_cons_zero, List.getD_cons_succ, wantS]
    simp <;> (try split) <;> simp_all <;> (try split) <;> (first | rfl | omega)
  · have e1 : isS n_fill = true := rfl
    have e2 : findS n_fill n = (ents.getD 1 ent0, true) := rfl
    have e3 : sizedS n_fill = true := rfl
    have e4 : eqS n_fill n_chunk = false := rfl
    unfold rightS givenS ranksQ
    rw [e1, e2, e3, e4, opI_fill]
    simp only [rankL, ents, List.getD_cons_zero, List.getD_cons_succ, wantS]
    simp <;> (try split) <;> simp_all <;> (try split) <;> (first | rfl | omega)
  · have e1 : isS n_take = true := rfl
    have e2 : findS n_take n = (ents.getD 2 ent0, true) := rfl
    have e3 : sizedS n_take = true := rfl
    have e4 : eqS n_take n_chunk = false := rfl
    unfold rightS givenS ranksQ
    rw [e1, e2, e3, e4, opI_take]
    simp only [rankL, ents, List.getD_cons_zero, List.getD_cons_succ, wantS]
    simp <;> (try split) <;> simp_all <;> (try split) <;> (first | rfl | omega)
  · have e1 : isS n_drop = true := rfl
    have e2 : findS n_drop n = (ents.getD 3 ent0, true) := rfl
    have e3 : sizedS n_drop = true := rfl
    have e4 : eqS n_drop n_chunk = false := rfl
    unfold rightS givenS ranksQ
    rw [e1, e2, e3, e4, opI_drop]
    simp only [rankL, ents, List.getD_cons_zero, List.getD_cons_succ, wantS]
    simp <;> (try split) <;> simp_all <;> (try split) <;> (first | rfl | omega)
  · have e1 : isS n_reverse = true := rfl
    have e2 : findS n_reverse n = (ents.getD 4 ent0, true) := rfl
    have e3 : sizedS n_reverse = false := rfl
    have e4 : eqS n_reverse n_chunk = false := rfl
    unfold rightS givenS ranksQ
    rw [e1, e2, e3, e4, opI_reverse]
    simp only [rankL, ents, List.getD_cons_zero, List.getD_cons_succ, wantS]
    simp <;> (try split) <;> simp_all <;> (try split) <;> (first | rfl | omega)
  · have e1 : isS n_append = true := rfl
    have e2 : findS n_append n = (ents.getD 5 ent0, true) := rfl
    have e3 : sizedS n_append = false := rfl
    have e4 : eqS n_append n_chunk = false := rfl
    unfold rightS givenS ranksQ
    rw [e1, e2, e3, e4, opI_append]
    simp only [rankL, ents, List.getD_cons_zero, List.getD_cons_succ, wantS]
    simp <;> (try split) <;> simp_all <;> (try split) <;> (first | rfl | omega)
  · have e1 : isS n_transpose = true := rfl
    have e2 : findS n_transpose n = (ents.getD 6 ent0, true) := rfl
    have e3 : sizedS n_transpose = false := rfl
    have e4 : eqS n_transpose n_chunk = false := rfl
    unfold rightS givenS ranksQ
    rw [e1, e2, e3, e4, opI_transpose]
    simp only [rankL, ents, List.getD_cons_zero, List.getD_cons_succ, wantS]
    simp <;> (try split) <;> simp_all <;> (try split) <;> (first | rfl | omega)
  · have e1 : isS n_diagonal = true := rfl
    have e2 : findS n_diagonal n = (ents.getD 7 ent0, true) := rfl
    have e3 : sizedS n_diagonal = false := rfl
    have e4 : eqS n_diagonal n_chunk = false := rfl
    unfold rightS givenS ranksQ
    rw [e1, e2, e3, e4, opI_diagonal]
    simp only [rankL, ents, List.getD_cons_zero, List.getD_cons_succ, wantS]
    simp <;> (try split) <;> simp_all <;> (try split) <;> (first | rfl | omega)
  · have e1 : isS n_windows = true := rfl
    have e2 : findS n_windows n = (ents.getD 8 ent0, true) := rfl
    have e3 : sizedS n_windows = true := rfl
    have e4 : eqS n_windows n_chunk = false := rfl
    unfold rightS givenS ranksQ
    rw [e1, e2, e3, e4, opI_windows]
    simp only [rankL, ents, List.getD_cons_zero, List.getD_cons_succ, wantS]
    simp <;> (try split) <;> simp_all <;> (try split) <;> (first | rfl | omega)
  · have e1 : isS n_chunk = true := rfl
    have e2 : findS n_chunk n = (ents.getD 9 ent0, true) := rfl
    have e3 : sizedS n_chunk = false := rfl
    have e4 : eqS n_chunk n_chunk = true := rfl
    unfold rightS givenS ranksQ
    rw [e1, e2, e3, e4, opI_chunk]
    simp only [rankL, ents, List.getD_cons_zero, List.getD_cons_succ, wantS]
    simp <;> (try split) <;> simp_all <;> (try split) <;> (first | rfl | omega)
  · have e1 : isS n_index = true := rfl
    have e2 : findS n_index n = (ents.getD 10 ent0, true) := rfl
    have e3 : sizedS n_index = false := rfl
    have e4 : eqS n_index n_chunk = false := rfl
    unfold rightS givenS ranksQ
    rw [e1, e2, e3, e4, opI_index]
    simp only [rankL, ents, List.getD_cons_zero, List.getD_cons_succ, wantS]
    simp <;> (try split) <;> simp_all <;> (try split) <;> (first | rfl | omega)
  · have e1 : isS n_update = true := rfl
    have e2 : findS n_update n = (ents.getD 11 ent0, true) := rfl
    have e3 : sizedS n_update = false := rfl
    have e4 : eqS n_update n_chunk = false := rfl
    unfold rightS givenS ranksQ
    rw [e1, e2, e3, e4, opI_update]
    simp only [rankL, ents, List.getD_cons_zero, List.getD_cons_succ, wantS]
    simp <;> (try split) <;> simp_all <;> (try split) <;> (first | rfl | omega)
  · have e1 : isS n_pack = true := rfl
    have e2 : findS n_pack n = (packE n, true) := rfl
    have e3 : sizedS n_pack = false := rfl
    have e4 : eqS n_pack n_chunk = false := rfl
    by_cases h1 : 1 ≤ n
    · have r1 : ranksQ n_pack n = (List.replicate n.toNat 0, true) := by
        unfold ranksQ; rw [opI_pack]; simp only [rankL]; rw [if_pos ⟨h1, hn⟩]; simp only
        rw [if_neg (by simp only [List.length_replicate]; omega)]
      have hm : maxI n 1 = n := by unfold maxI; rw [if_neg (by omega)]
      have hl : ((List.replicate n.toNat (0 : Int)).length : Int) = n := by simp only [List.length_replicate]; omega
      unfold rightS givenS
      rw [e1, e2, e3, e4, r1]
      simp only [packE, hm, wantS, hl]
      simp <;> split <;> rfl
    · have r1 : ranksQ n_pack n = ([], false) := by
        unfold ranksQ; rw [opI_pack]; simp only [rankL]; rw [if_neg (by omega)]
      have hm : maxI n 1 = 1 := by unfold maxI; rw [if_pos (by omega)]
      unfold rightS givenS
      rw [e1, e2, e3, e4, r1]
      simp only [packE, hm, wantS]
      rw [if_neg (by simp), if_pos (by simp), if_neg (by simp), if_pos (by left; simp; omega)]
  · have e1 : isS op = false := by
      obtain ⟨q0, q1, q2, q3, q4, q5, q6, q7, q8, q9, q10, q11, q12⟩ := hno
      simp only [isS, opNames, List.any_cons, List.any_nil, eqS_symm _ op]
      simp only [n_iota, n_fill, n_take, n_drop, n_reverse, n_append, n_transpose, n_diagonal, n_windows, n_chunk, n_index, n_update, n_pack, q0, q1, q2, q3, q4, q5, q6, q7, q8, q9, q10, q11, q12]
      rfl
    have e2 : (findS op n).2 = false := by
      obtain ⟨q0, q1, q2, q3, q4, q5, q6, q7, q8, q9, q10, q11, q12⟩ := hno
      simp only [findS, findG, ents, eqS_symm _ op]
      simp only [n_iota, n_fill, n_take, n_drop, n_reverse, n_append, n_transpose, n_diagonal, n_windows, n_chunk, n_index, n_update, n_pack, q0, q1, q2, q3, q4, q5, q6, q7, q8, q9, q10, q11, q12]
      rfl
    unfold rightS givenS
    rw [if_pos e1, if_pos e2]
noncomputable def con76 : PCon Try.prog where
  f := 76
  c := fun
    | [.lit (.string op), xns, .lit (.int .i64 num), .lit (.int .i64 n)] => match slK .i64 xns with | some ns => some (True, .lit (.int .i64 (rightS op ns.length num n))) | _ => none
    | _ => none
  ok := by
    intro args p r hc hp
    split at hc
    · split at hc
      · rename_i hns
        cases hc
        exact PC.weak right_pc ⟨LeA.refl _, slK_le hns, LeA.refl _, LeA.refl _, trivial⟩
      · cases hc
    · cases hc
  fk := fk76
theorem con76_f : con76.f = 76 := rfl
theorem con76_c {op : ByteArray} {xns : AV} {num : Int} {n : Int} : con76.c [.lit (.string op), xns, .lit (.int .i64 num), .lit (.int .i64 n)] = match slK .i64 xns with | some ns => some (True, .lit (.int .i64 (rightS op ns.length num n))) | _ => none := rfl
end Go.Proofs.Ytjlcbojpiieafaa

/- Which slots live behind each region, made by program (keeps2.py). -/
namespace Go.Proofs.Ytjlcbojpiieafaa
def kp14 (i : Nat) : List Nat := if i < 9 then if i < 4 then if i < 2 then if i < 1 then [0, 2, 4] else [0, 2, 4, 24] else if i < 3 then [6] else [0, 2, 4, 38] else if i < 6 then if i < 5 then [6] else [0, 2, 4, 7] else if i < 7 then [0, 2, 4, 7, 8] else if i < 8 then [0, 2, 4, 7, 8, 39, 40, 41] else [0, 2, 4, 7, 8, 39, 40, 41, 42] else if i < 14 then if i < 11 then if i < 10 then [0, 2, 4, 7, 8, 10, 39, 40, 41] else [0, 2, 4, 7, 8, 39, 40, 41] else if i < 12 then [0, 2, 4, 7, 8, 39, 40, 41] else if i < 13 then [0, 2, 4, 7, 8, 11, 12] else [0, 4, 7, 8, 11, 12, 13, 14] else if i < 16 then if i < 15 then [0, 4, 7, 8, 11, 12, 13, 14, 15, 16] else [0, 4, 8, 11, 12, 13, 14, 15, 16, 17, 18] else if i < 17 then [0, 4, 8, 11, 12, 13, 14, 15, 16, 17, 18, 19, 20] else if i < 18 then [0, 11, 12, 13, 14, 15, 16, 17, 18, 19, 20, 21, 22] else [6]
def kp38 (i : Nat) : List Nat := if i < 1 then [] else if i < 2 then [1, 2, 3] else [0]
def kp39 (i : Nat) : List Nat := if i < 4 then if i < 2 then if i < 1 then [0] else [0, 5, 6, 7] else if i < 3 then [0, 5, 6, 7, 8] else [0, 4, 5, 6, 7] else if i < 6 then if i < 5 then [0, 5, 6, 7, 13] else [2] else if i < 7 then [0, 5, 6, 7] else [2]
def kp40 (i : Nat) : List Nat := if i < 19 then if i < 9 then if i < 4 then if i < 2 then if i < 1 then [0, 1, 2, 3, 8, 9] else [0, 1, 2, 3, 8, 9, 10, 11] else if i < 3 then [0, 1, 2, 3, 8, 9, 10, 11, 33] else [8, 9, 10] else if i < 6 then if i < 5 then [0, 1, 2, 3, 8, 9, 11, 12] else [0, 1, 2, 3, 8, 9, 11, 12, 13] else if i < 7 then [0, 1, 2, 3, 8, 9, 11, 12, 13, 36, 37, 38] else if i < 8 then [0, 1, 2, 3, 8, 9, 11, 12, 13, 36, 37, 38, 39] else [0, 1, 2, 3, 8, 9, 11, 12, 13, 15, 36, 37, 38] else if i < 14 then if i < 11 then if i < 10 then [0, 1, 2, 3, 8, 9, 11, 12, 13, 15, 36, 37, 38, 44] else [8, 9, 10] else if i < 12 then [0, 1, 2, 3, 8, 9, 11, 12, 13, 36, 37, 38] else if i < 13 then [0, 1, 2, 3, 8, 9, 11, 12, 13, 36, 37, 38] else [0, 1, 2, 3, 8, 9, 11, 13, 16, 17] else if i < 16 then if i < 15 then [0, 1, 2, 3, 8, 9, 11, 13, 16, 64] else [8, 9, 10] else if i < 17 then [0, 1, 2, 3, 8, 9, 10, 11, 16, 18] else if i < 18 then [0, 1, 2, 3, 8, 9, 10, 11, 16, 18, 75] else [8, 9, 10] else if i < 29 then if i < 24 then if i < 21 then if i < 20 then [0, 1, 2, 3, 8, 9, 11, 18, 19] else [0, 1, 2, 3, 8, 9, 11, 18, 19, 81] else if i < 22 then [8, 9, 19] else if i < 23 then [0, 1, 2, 3, 8, 9, 11, 18, 19, 81, 92] else [8, 9, 19, 96, 97] else if i < 26 then if i < 25 then [8, 9, 19, 96, 97, 98] else [8, 9, 19, 20, 96, 97] else if i < 27 then [8, 9, 19, 96, 97] else if i < 28 then [8, 9, 19, 96, 97] else [0, 1, 2, 3, 8, 9, 11, 18, 19, 81, 107] else if i < 34 then if i < 31 then if i < 30 then [0, 1, 2, 3, 8, 9, 11, 18, 19, 81, 107] else [8, 9, 19, 110, 111, 112] else if i < 32 then [8, 9, 19, 110, 111, 112, 113] else if i < 33 then [8, 9, 19, 22, 110, 111, 112] else [8, 9, 19, 110, 111, 112] else if i < 36 then if i < 35 then [8, 9, 19, 110, 111, 112] else [0, 1, 2, 3, 8, 9, 11, 18, 19, 81, 123] else if i < 37 then [0, 1, 2, 3, 8, 9, 11, 18, 19, 123] else if i < 38 then [8, 9, 19] else [8, 9, 10]
def kp41 (i : Nat) : List Nat := if i < 14 then if i < 7 then if i < 3 then if i < 1 then [0, 1, 2, 3, 8] else if i < 2 then [0, 1, 2, 3, 8, 11] else [0, 1, 2, 3, 8, 11, 31] else if i < 5 then if i < 4 then [8, 9, 10] else [0, 1, 2, 3, 8, 12] else if i < 6 then [0, 1, 2, 3, 8, 12, 13] else [0, 1, 2, 3, 8, 12, 13, 14] else if i < 10 then if i < 8 then [0, 1, 2, 3, 8, 12, 13, 14, 37] else if i < 9 then [0, 1, 2, 3, 8, 12, 13, 14] else [0, 1, 2, 3, 8, 12, 13, 14, 45] else if i < 12 then if i < 11 then [8, 9, 10] else [0, 1, 2, 3, 8, 12, 13, 14] else if i < 13 then [0, 1, 2, 3, 8, 13, 15, 16] else [0, 1, 2, 3, 8, 13, 15, 70] else if i < 21 then if i < 17 then if i < 15 then [8, 9, 10] else if i < 16 then [0, 1, 2, 3, 8, 10, 15, 17] else [0, 1, 2, 3, 8, 10, 15, 17, 81] else if i < 19 then if i < 18 then [8, 9, 10] else [0, 1, 2, 3, 8, 15, 17, 89] else if i < 20 then [8, 9, 10] else [0, 1, 2, 3, 8, 15, 17, 18] else if i < 25 then if i < 23 then if i < 22 then [0, 1, 2, 3, 8, 15, 17, 18, 20] else [0, 1, 2, 3, 8, 15, 17, 18, 20, 21] else if i < 24 then [0, 1, 2, 3, 8, 15, 17, 18, 20, 21, 104] else [0, 1, 2, 3, 8, 15, 17, 18, 20, 21] else if i < 27 then if i < 26 then [0, 1, 2, 3, 8, 15, 17, 18, 20, 21, 22] else [0, 1, 2, 3, 8, 15, 17, 18, 20, 21] else if i < 28 then [8, 10] else [8, 9, 10]
def kp42 (i : Nat) : List Nat := if i < 7 then if i < 3 then if i < 1 then [0, 1] else if i < 2 then [0, 1, 7] else [0, 1, 21] else if i < 5 then if i < 4 then [4, 5] else [0, 1, 8] else if i < 6 then [1, 8, 29] else [8, 33] else if i < 10 then if i < 8 then [4, 5] else if i < 9 then [8] else [8, 38] else if i < 12 then if i < 11 then [4, 5] else [8, 41] else if i < 13 then [4, 5] else [4, 5]
def kp44 (i : Nat) : List Nat := if i < 4 then if i < 2 then if i < 1 then [0] else [5, 6, 7] else if i < 3 then [5, 6, 7, 8] else [4, 5, 6, 7] else if i < 6 then if i < 5 then [5, 6, 7, 19] else [2] else if i < 7 then [5, 6, 7] else [2]
def kp45 (i : Nat) : List Nat := if i < 1 then [0, 2] else [2]
def kp46 (i : Nat) : List Nat := if i < 4 then if i < 2 then if i < 1 then [0, 1, 2, 6] else [0, 1, 2, 6, 7] else if i < 3 then [0, 1, 2, 6, 7, 12] else [0, 2, 6, 7] else if i < 6 then if i < 5 then [0, 6, 8, 10] else [0, 6, 8, 24] else if i < 7 then [6] else [6]
def kp47 (i : Nat) : List Nat := if i < 1 then [2, 3] else [4]
def kp48 (i : Nat) : List Nat := if i < 1 then [0, 2] else [2]
def kp52 (i : Nat) : List Nat := if i < 9 then if i < 4 then if i < 2 then if i < 1 then [0, 1] else [0, 1, 7] else if i < 3 then [0, 1, 18] else [4, 5] else if i < 6 then if i < 5 then [0, 1, 8] else [0, 1, 8, 9] else if i < 7 then [0, 1, 8, 9, 22] else if i < 8 then [0, 1, 8, 9] else [0, 1, 8, 9, 36] else if i < 14 then if i < 11 then if i < 10 then [4, 5] else [0, 1, 8, 9, 46] else if i < 12 then [0, 1, 8, 9, 51] else if i < 13 then [4, 5] else [0, 1, 9, 61] else if i < 16 then if i < 15 then [4, 5] else [0, 1, 8, 9] else if i < 17 then [8, 67] else if i < 18 then [4, 5] else [4, 5]
def kp53 (i : Nat) : List Nat := if i < 28 then if i < 14 then if i < 7 then if i < 3 then if i < 1 then [0, 1, 2, 3] else if i < 2 then [0, 1, 2, 3, 10] else [0, 1, 2, 3, 10, 29] else if i < 5 then if i < 4 then [8, 9] else [0, 1, 2, 3, 11] else if i < 6 then [0, 1, 2, 3, 11, 13] else [0, 1, 2, 3, 11, 13, 41] else if i < 10 then if i < 8 then [0, 1, 2, 3, 11, 13] else if i < 9 then [0, 1, 2, 3, 11, 13, 53] else [8, 9] else if i < 12 then if i < 11 then [0, 1, 2, 3, 14] else [0, 1, 2, 3, 14, 57] else if i < 13 then [0, 1, 2, 3, 14] else [0, 1, 2, 3, 14, 16] else if i < 21 then if i < 17 then if i < 15 then [0, 1, 2, 3, 14, 16, 69] else if i < 16 then [8, 9] else [0, 1, 2, 3, 17] else if i < 19 then if i < 18 then [0, 1, 2, 3, 17, 80] else [0, 1, 2, 3, 17] else if i < 20 then [0, 1, 2, 3, 17, 18] else [0, 1, 2, 3, 17, 18, 87] else if i < 24 then if i < 22 then [0, 2, 3, 17, 18] else if i < 23 then [0, 2, 3, 17, 18, 109] else [8, 9] else if i < 26 then if i < 25 then [0, 2, 3, 17, 18, 19] else [2, 3, 17, 18, 19, 110] else if i < 27 then [2, 3, 17, 18, 19, 110, 111] else [2, 3, 17, 18, 19, 110, 111] else if i < 42 then if i < 35 then if i < 31 then if i < 29 then [2, 3, 17, 18, 19, 110, 111] else if i < 30 then [19] else [2, 3, 17, 18, 19, 110, 117] else if i < 33 then if i < 32 then [19] else [2, 3, 17, 18, 19, 110, 123] else if i < 34 then [2, 3, 17, 18, 19, 110, 123] else [19] else if i < 38 then if i < 36 then [2, 3, 17, 18, 19, 110, 128] else if i < 37 then [19] else [2, 3, 17, 18, 19, 110, 138] else if i < 40 then if i < 39 then [19] else [2, 3, 17, 18, 19, 110, 147] else if i < 41 then [17, 155] else [8, 9] else if i < 49 then if i < 45 then if i < 43 then [19] else if i < 44 then [2, 3, 17, 18, 19, 110, 158] else [19] else if i < 47 then if i < 46 then [2, 3, 17, 19, 110, 166] else [2, 17, 173] else if i < 48 then [8, 9] else [2, 17, 177] else if i < 53 then if i < 51 then if i < 50 then [8, 9] else [19] else if i < 52 then [3, 19, 183] else [19] else if i < 55 then if i < 54 then [19, 21] else [19, 21, 194] else if i < 56 then [8, 9] else [8, 9]
def kp54 (i : Nat) : List Nat := if i < 1 then [0] else [2]
def kp56 (i : Nat) : List Nat := if i < 4 then if i < 2 then if i < 1 then [0, 1] else [0, 1, 10] else if i < 3 then [4] else [0, 1, 5] else if i < 6 then if i < 5 then [0, 1, 5, 14] else [0, 1, 5] else if i < 7 then [0, 1, 5, 25] else if i < 8 then [4] else [4]
def kp57 (i : Nat) : List Nat := if i < 4 then if i < 2 then if i < 1 then [] else [1] else if i < 3 then [1, 4, 5, 6] else [1, 4, 5, 6, 7] else if i < 6 then if i < 5 then [1, 3, 4, 5, 6] else [1, 4, 5, 6] else if i < 7 then [1, 4, 5, 6] else [0]
def kp61 (i : Nat) : List Nat := if i < 2 then if i < 1 then [0] else [0, 4] else if i < 3 then [2] else [2]
def kp62 (i : Nat) : List Nat := if i < 1 then [0] else [2]
def kp73 (i : Nat) : List Nat := if i < 6 then if i < 3 then if i < 1 then [0, 1] else if i < 2 then [0, 1, 6, 7] else [0, 1, 6, 7, 8] else if i < 4 then [0, 1, 6, 7, 8, 28] else if i < 5 then [4, 5] else [1, 6, 7, 8, 35] else if i < 9 then if i < 7 then [4, 5] else if i < 8 then [1, 6, 7, 43] else [4, 5] else if i < 10 then [1, 7, 9] else if i < 11 then [9] else [4, 5]
def kp74 (i : Nat) : List Nat := if i < 5 then if i < 2 then if i < 1 then [2, 4, 5, 7] else [2, 4, 5, 7, 9] else if i < 3 then [2, 4, 5, 7, 9, 10] else if i < 4 then [2, 9, 10, 12] else [2, 9, 12, 22, 23] else if i < 8 then if i < 6 then [2, 9, 12, 22, 23, 24] else if i < 7 then [2, 9, 12, 13, 22, 23] else [2, 9, 12, 14, 22, 23] else if i < 9 then [2, 9, 12, 22, 23] else if i < 10 then [2, 9, 12, 22, 23] else [8]
def kp77 (i : Nat) : List Nat := if i < 7 then if i < 3 then if i < 1 then [0, 1, 2, 6] else if i < 2 then [0, 1, 2, 6, 9] else [0, 1, 2, 6, 9, 10] else if i < 5 then if i < 4 then [1, 2, 6, 9, 10, 31] else [1, 2, 6, 9, 10, 11] else if i < 6 then [1, 2, 6, 9, 10, 11, 33] else [1, 6, 10, 11] else if i < 10 then if i < 8 then [6, 8, 10] else if i < 9 then [6, 7, 8] else [1, 2, 6, 9, 10, 12] else if i < 12 then if i < 11 then [1, 2, 6, 9, 10, 12, 57] else [1, 2, 6, 10, 12] else if i < 13 then [6, 8, 10] else [6, 7, 8]
def kp78 (i : Nat) : List Nat := if i < 12 then if i < 6 then if i < 3 then if i < 1 then [0, 1, 2, 3, 4] else if i < 2 then [1, 2, 3, 4, 11] else [1, 2, 3, 4, 11, 12] else if i < 4 then [10] else if i < 5 then [1, 2, 3, 4, 11, 17] else [10] else if i < 9 then if i < 7 then [1, 2, 3, 4, 11, 25] else if i < 8 then [10] else [1, 2, 3, 4, 11, 36] else if i < 10 then [10] else if i < 11 then [2, 3, 4, 11, 51] else [10] else if i < 18 then if i < 15 then if i < 13 then [2, 3, 4, 11, 69] else if i < 14 then [3, 4, 79] else [10] else if i < 16 then [10] else if i < 17 then [2, 3, 4, 11, 104] else [10] else if i < 21 then if i < 19 then [2, 3, 4, 11, 126] else if i < 20 then [10] else [2, 3, 4, 11, 148] else if i < 23 then if i < 22 then [10] else [2, 3, 4, 163] else if i < 24 then [10] else [10]
def kp79 (i : Nat) : List Nat := if i < 1 then [0, 1] else [4]
def kp80 (i : Nat) : List Nat := if i < 1 then [0] else [2]
def kp81 (i : Nat) : List Nat := if i < 2 then if i < 1 then [0] else [0, 4] else if i < 3 then [2] else [2]
def kp83 (i : Nat) : List Nat := if i < 1 then [0, 1] else [3]
def kp87 (i : Nat) : List Nat := if i < 1 then [0, 1] else [4]
def kp96 (i : Nat) : List Nat := if i < 1 then [0, 1, 2, 3] else [5]
def kp97 (i : Nat) : List Nat := if i < 4 then if i < 2 then if i < 1 then [0, 1] else [0, 1, 7, 8] else if i < 3 then [0, 1, 7, 8, 9] else [0, 1, 5, 7, 8] else if i < 6 then if i < 5 then [0, 1, 5, 7, 8, 16] else [4] else if i < 7 then [0, 1, 7, 8] else [4]
def kp102 (i : Nat) : List Nat := if i < 4 then if i < 2 then if i < 1 then [0, 1] else [0, 1, 7, 8] else if i < 3 then [0, 1, 7, 8, 9] else [0, 1, 5, 7, 8] else if i < 6 then if i < 5 then [0, 1, 5, 7, 8, 16] else [4] else if i < 7 then [0, 1, 7, 8] else [4]
end Go.Proofs.Ytjlcbojpiieafaa

/- slices.Delete at []string, laid by the shelf's plain mode. -/
namespace Go.Proofs
open Go.Shelf

def Try.laysNm224_ren : Go.Shelf.Ren := ⟨fun | 24 => 82 | n => n, fun | 24 => 62 | 9 => 9 | 3 => 3 | 4 => 4 | 0 => 0 | n => n, fun | n => n⟩
theorem Try.laysNm224 : Go.Proofs.Lays2.n24 Try.prog Try.laysNm224_ren := {
  mixed := by kernel_rfl
  f24 := Try.func82.trans (congrArg some (by kernel_rfl))
  t0 := Try.underlying0
  a0 := Try.isAgg0
  z0 := Try.sizeOf0
  v0 := Try.zeroValue0
  t3 := Try.underlying3
  a3 := Try.isAgg3
  z3 := Try.sizeOf3
  v3 := Try.zeroValue3
  t4 := Try.underlying4
  a4 := Try.isAgg4
  z4 := Try.sizeOf4
  v4 := Try.zeroValue4
  t9 := Try.underlying9
  a9 := Try.isAgg9
  z9 := Try.sizeOf9
  v9 := Try.zeroValue9
  t24 := Try.underlying62
  a24 := Try.isAgg62
  z24 := Try.sizeOf62
  v24 := Try.zeroValue62
  i9 := by kernel_rfl }
open Go.RowKit Go.Lib Go.Sort in
/-- slices.Delete at []string, over an array. (LAID: no walk: one application.) -/
theorem Try.slices_Delete_string_arr (blk off cap i j : Nat) (d : Array (List UInt8)) (w : World) (hH : Holds encStr w blk off d) (hcap : d.size ≤ cap) (hm : cap ≤ 9223372036854775807) (hij : i ≤ j) (hj : j ≤ d.size) :
    Calls Try.prog 82 #[.slice (some ⟨blk, off, none⟩) d.size cap, .int .i64 i, .int .i64 j] w fun e w' => e = .returned (.slice (some ⟨blk, off, none⟩) (d.size - (j - i)) cap) ∧ ∃ q, w' = putRow encStr (Sort.ahead w q) blk off (d.toList.take i ++ d.toList.drop j ++ List.replicate (j - i) []).toArray := Any.slices_Delete_string_arr Try.laysNm224 blk off cap i j d w hH hcap hm hij hj
open Go.RowKit Go.Lib Go.Sort in
/-- slices.Delete at []string: "Delete modifies s in place by removing the elements s[i:j], and returns the modified slice. Delete panics if j > len(s) or s[i:j] is not a valid slice of s. Delete is O(len(s)-i), so if many items must be deleted, it is better to make a single call deleting them all together than to delete one at a time. Delete zeroes the elements s[len(s)-(j-i):len(s)]. If the result is empty, it has the same nilness as s.": FOR i ≤ j ≤ len(s) IT RETURNS THE SLICE CUT TO len(s) - (j - i) ELEMENTS; ITS CELLS HOLD what stood ahead of i, what stood from j on, then j - i zero values; all else is as it was, but for the count of draws. IN THE WORDS OF slices.Sort's CONTRACT ('Holds', 'putRow'). It asks 'zs.length ≤ cap ≤ 2^63 - 1' (every slice's). (Outside i ≤ j ≤ len(s) it panics: no contract here.) (LAID: no walk: one application.) -/
theorem Try.slices_Delete_string (blk off cap i j : Nat) (zs : List (List UInt8)) (w : World) (hH : Holds encStr w blk off zs.toArray) (hcap : zs.length ≤ cap) (hm : cap ≤ 9223372036854775807) (hij : i ≤ j) (hj : j ≤ zs.length) :
    Calls Try.prog 82 #[.slice (some ⟨blk, off, none⟩) zs.length cap, .int .i64 i, .int .i64 j] w fun e w' => e = .returned (.slice (some ⟨blk, off, none⟩) (zs.length - (j - i)) cap) ∧ ∃ q, w' = putRow encStr (Sort.ahead w q) blk off (zs.take i ++ zs.drop j ++ List.replicate (j - i) []).toArray := Any.slices_Delete_string Try.laysNm224 blk off cap i j zs w hH hcap hm hij hj
end Go.Proofs

/- Lists of element types: copies, tests, a deletion. -/
namespace Go.Proofs.Ytjlcbojpiieafaa
open Go Go.Fw
set_option maxRecDepth 20000

theorem clones_ec {σ : List AObj} {l : List ByteArray} {k : AV → List AObj → Prop} (hl : l.length ≤ 1000000) (hk : k (.arr σ.length 0) (σ ++ [.arr 9 1 (strs l) 0 false])) : EC Try.prog 81 [.sl false 1 (strs l)] σ k := by
  refine EC.nilArr 9 1 ?_
  refine ec_ofR F1_ok mixed (kp81) (rs := [.tmp 2]) Try.func81 rfl (by kernel_rfl) (by kernel_rfl) (Nat.le_of_ble_eq_true rfl) ?_
  simp only [initF_cons, initF_nil, Nat.reduceAdd]
  refine t_name fun KF => ?_
  unfold F1
  repeat' (first
   | (with_reducible first | refine t_seq fun K => ?_ | refine t_block ?_ | refine t_scope ?_ | refine t_label ?_ | refine t_skip ?_ | refine t_exit ?_ | refine t_ret ?_ | refine t_k ?_ | refine t_gF ?_ | exact kp_nil | exact Kp.refl _ | exact kp_to | refine kp_cons ?_ | refine kp_arr ?_ | refine kp_app ?_ | refine t_p ?_ | refine t_br (fun hc => ?_) fun hc => ?_)
   | ((with_reducible first | refine t_kE (t_openE ?_) | refine t_kD (t_openD ?_) | refine t_kE ?_ | refine t_kD ?_ | refine t_gS ?_ | refine t_kL ?_ | refine t_kLF ?_ ?_ | refine t_region fun K => ?_ | refine t_cond fun A B => ?_ | refine t_draw (by kernel_rfl) fun K => ?_); (try (first | refine t_hideE fun KL => ?_ | refine t_hideD fun KL => ?_)); simp only [go_sem, geff, kp81])
   | ((with_reducible refine kp_skip ?_ ?_); rfl) | simp only [thenQ, blockQ, scopeQ, Nat.reduceEqDiff, reduceIte] | (with_reducible first | refine And.intro ?_ ?_ | intro vr))
  all_goals try (first | (with_reducible assumption) | (intros; (try simp only [Bool.and_eq_true, Bool.or_eq_true, Bool.or_eq_false_iff, Bool.not_eq_true', Bool.not_eq_false', decide_eq_true_eq, decide_eq_false_iff_not, beq_iff_eq, beq_eq_false_iff_ne, bne_iff_ne, bne_eq_false_iff_eq, ne_eq, inI64, List.length_append] at *) <;> omega))
  all_goals ((first | refine end_retE ?_ | refine end_normE ?_); simp only [fin, go_sem])
  · exact .inr (by simp_all [strs])
  · exact .inl hk
theorem slS_leR' {x : AV} {l : List ByteArray} (h : slS x = some l) : LeR x (.sl false 1 (strs l)) := slS_leR h
noncomputable def ecn81 : ECon Try.prog where
  f := 81
  c := fun args σ k => match args with
    | [xl] => match slS xl with | some l => l.length ≤ 1000000 ∧ k (.arr σ.length 0) (σ ++ [.arr 9 1 (strs l) 0 false]) | _ => False
    | _ => False
  ok := by
    intro args σ k h
    split at h
    · split at h
      · rename_i hl
        exact EC.weak (clones_ec h.1 h.2) (LeRL.cons (slS_leR hl) (LeRL.nil))
      · exact h.elim
    · exact h.elim
  fk := fk81
theorem ecn81_f : ecn81.f = 81 := rfl
theorem ecn81_c {xl : AV} {σ : List AObj} {k : AV → List AObj → Prop} : ecn81.c [xl] σ k = match slS xl with | some l => l.length ≤ 1000000 ∧ k (.arr σ.length 0) (σ ++ [.arr 9 1 (strs l) 0 false]) | _ => False := rfl
def noEl (t : ByteArray) : Bool := !eqS t ⟨#[105, 110, 116]⟩ && !eqS t ⟨#[98, 111, 111, 108]⟩
theorem noel_pc {t : ByteArray} : PC Try.prog 80 [.lit (.string t)] (.lit (.bool (noEl t))) := by
  refine pc_ofR F1_ok mixed (kp80) (rs := [.tmp 2]) Try.func80 rfl (by kernel_rfl) (by kernel_rfl) (Nat.le_of_ble_eq_true rfl) ?_
  simp only [initF_cons, initF_nil, Nat.reduceAdd]
  refine t_name fun KF => ?_
  unfold F1
  repeat' (first
   | (with_reducible first | refine t_seq fun K => ?_ | refine t_block ?_ | refine t_scope ?_ | refine t_label ?_ | refine t_skip ?_ | refine t_exit ?_ | refine t_ret ?_ | refine t_k ?_ | refine t_gF ?_ | exact kp_nil | exact Kp.refl _ | exact kp_to | refine kp_cons ?_ | refine kp_arr ?_ | refine kp_app ?_ | refine t_p ?_ | refine t_br (fun hc => ?_) fun hc => ?_)
   | ((with_reducible first | refine t_kE (t_openE ?_) | refine t_kD (t_openD ?_) | refine t_kE ?_ | refine t_kD ?_ | refine t_gS ?_ | refine t_kL ?_ | refine t_kLF ?_ ?_ | refine t_region fun K => ?_ | refine t_cond fun A B => ?_ | refine t_draw (by kernel_rfl) fun K => ?_); (try (first | refine t_hideE fun KL => ?_ | refine t_hideD fun KL => ?_)); simp only [go_sem, geff, kp80])
   | ((with_reducible refine kp_skip ?_ ?_); rfl) | simp only [thenQ, blockQ, scopeQ, Nat.reduceEqDiff, reduceIte] | (with_reducible first | refine And.intro ?_ ?_ | intro vr))
  all_goals try (first | (with_reducible assumption) | (intros; (try simp only [Bool.and_eq_true, Bool.or_eq_true, Bool.or_eq_false_iff, Bool.not_eq_true', Bool.not_eq_false', decide_eq_true_eq, decide_eq_false_iff_not, beq_iff_eq, beq_eq_false_iff_ne, bne_iff_ne, bne_eq_false_iff_eq, ne_eq, inI64, List.length_append] at *) <;> omega))
  all_goals ((first | refine end_retE ?_ | refine end_normE ?_); simp only [fin, go_sem])
  exact LeA.of_eq (by unfold noEl; rfl)
noncomputable def con80 : PCon Try.prog where
  f := 80
  c := fun
    | [.lit (.string t)] => some (True, .lit (.bool (noEl t)))
    | _ => none
  ok := by
    intro args p r hc hp
    split at hc
    · cases hc; exact noel_pc
    · cases hc
  fk := fk80
theorem con80_f : con80.f = 80 := rfl
theorem con80_c {t : ByteArray} : con80.c [.lit (.string t)] = some (True, .lit (.bool (noEl t))) := rfl
def idxB (p : ByteArray → Bool) : List ByteArray → Int → Int
  | [], _ => -1
  | d :: t, i => if p d = true then i else idxB p t (i + 1)
theorem idxB_any (p : ByteArray → Bool) : ∀ (l : List ByteArray) (i : Int), 0 ≤ i → decide (idxB p l i ≥ 0) = l.any p
  | [], _, _ => rfl
  | d :: t, i, hi => by
    unfold idxB
    by_cases h : p d = true
    · rw [if_pos h, List.any_cons, h, decide_eq_true hi]; rfl
    · rw [if_neg h, idxB_any p t (i + 1) (by omega), List.any_cons]
      simp only [Bool.not_eq_true] at h
      rw [h]; rfl
noncomputable def H1 : Env := envJ (P := Try.prog) jk2 zer (fun _ => false) (fun _ => false) [con80] []
theorem H1_ok : EnvOk Try.prog H1 := envJOk zer_ok
theorem idxn_pc {l : List ByteArray} (hl : l.length ≤ 1000000) : PC Try.prog 97 [.sl false 1 (strs l), .fn (.func 80) [] []] (.lit (.int .i64 (idxB noEl l 0))) := by
  generalize hR : idxB noEl l 0 = R
  refine pc_ofR H1_ok mixed (kp97) (rs := [.tmp 4]) Try.func97 rfl (by kernel_rfl) (by kernel_rfl) (Nat.le_of_ble_eq_true rfl) ?_
  simp only [initF_cons, initF_nil, Nat.reduceAdd]
  refine t_name fun KF => ?_
  unfold H1
  repeat' (first
   | (with_reducible first | refine t_seq fun K => ?_ | refine t_block ?_ | refine t_scope ?_ | refine t_label ?_ | refine t_skip ?_ | refine t_exit ?_ | refine t_ret ?_ | refine t_k ?_ | refine t_gF ?_ | exact kp_nil | exact Kp.refl _ | exact kp_to | refine kp_cons ?_ | refine kp_arr ?_ | refine kp_app ?_ | refine t_p ?_ | refine t_br (fun hc => ?_) fun hc => ?_)
   | ((with_reducible first | refine t_kE (t_openE ?_) | refine t_kD (t_openD ?_) | refine t_kE ?_ | refine t_kD ?_ | refine t_gS ?_ | refine t_kL ?_ | refine t_kLF ?_ ?_ | refine t_region fun K => ?_ | refine t_cond fun A B => ?_ | refine t_draw (by kernel_rfl) fun K => ?_); (try (first | refine t_hideE fun KL => ?_ | refine t_hideD fun KL => ?_)); simp only [go_sem, geff, kp97, strs_length, con80_f])
   | ((with_reducible refine kp_skip ?_ ?_); rfl) | simp only [thenQ, blockQ, scopeQ, Nat.reduceEqDiff, reduceIte] | (with_reducible first | refine And.intro ?_ ?_ | intro vr))
  refine t_loopF (ι := { i : Nat // i ≤ l.length ∧ idxB noEl (l.drop i) i = R }) (fun i => [(8, .lit (.int .i64 i.1))]) (fun i => []) (fun i => l.length - i.1) ⟨0, by omega, hR⟩ ?_ ?_
  · simp only [updL_nil, updL_cons, delF_top, delF_upd, Nat.reduceEqDiff, reduceIte]
    refine Le.frameS (by first | rfl | (simp only [go_sem]; try rfl)) ?_
    repeat' (first | exact leF_top _ | exact (fun _ => LeR.refl _) | (with_reducible refine leF_sl ?_ ?_) | (refine leF_upd ?_ ?_))
    all_goals (first | exact LeR.top _ | exact LeR.refl _ | (refine LeR.of_eq ?_; (try simp only [go_sem]); try rfl) | ((try simp only [go_sem]); try rfl))
  rintro ⟨i, hi, hF⟩ K0
  rcases Nat.lt_or_ge i l.length with hc | hc
  · rw [drop_getD ByteArray.empty hc, idxB] at hF
    have g3 : decide ((i : Int) < (l.length : Int)) = true := decide_eq_true (by omega)
    repeat' (first
     | (with_reducible first | refine t_seq fun K => ?_ | refine t_block ?_ | refine t_scope ?_ | refine t_label ?_ | refine t_skip ?_ | refine t_exit ?_ | refine t_ret ?_ | refine t_k ?_ | refine t_gF ?_ | exact kp_nil | exact Kp.refl _ | exact kp_to | refine kp_cons ?_ | refine kp_arr ?_ | refine kp_app ?_ | refine t_p ?_ | refine t_br (fun hc => ?_) fun hc => ?_)
     | ((with_reducible first | refine t_kE (t_openE ?_) | refine t_kD (t_openD ?_) | refine t_kE ?_ | refine t_kD ?_ | refine t_gS ?_ | refine t_kL ?_ | refine t_kLF ?_ ?_ | refine t_region fun K => ?_ | refine t_cond fun A B => ?_ | refine t_draw (by kernel_rfl) fun K => ?_); (try (first | refine t_hideE fun KL => ?_ | refine t_hideD fun KL => ?_)); simp only [go_sem, geff, kp97, g3, Int.toNat_natCast, strs_length, con80_f, con80_c])
     | ((with_reducible refine kp_skip ?_ ?_); rfl) | simp only [thenQ, blockQ, scopeQ, Nat.reduceEqDiff, reduceIte] | (with_reducible first | refine And.intro ?_ ?_ | intro vr))
    all_goals try (first | (with_reducible assumption) | (intros; (try simp only [Bool.and_eq_true, Bool.or_eq_true, Bool.or_eq_false_iff, Bool.not_eq_true', Bool.not_eq_false', decide_eq_true_eq, decide_eq_false_iff_not, beq_iff_eq, beq_eq_false_iff_ne, bne_iff_ne, bne_eq_false_iff_eq, ne_eq, inI64, List.length_append] at *) <;> omega))
    · skip
      all_goals ((first | refine end_retE ?_ | refine end_normE ?_); simp only [fin, go_sem])
      rw [if_pos hc] at hF
      exact LeA.of_eq (by rw [← hF])
    · skip
      refine ⟨⟨i + 1, by omega, by rw [if_neg (by rw [hc]; decide)] at hF; rw [← hF]; congr 1⟩, by first | (simp only; omega) | omega, ?_⟩
      simp only [updL_nil, updL_cons, delF_top, delF_upd, Nat.reduceEqDiff, reduceIte]
      refine Le.frameS (by first | rfl | (simp only [go_sem]; try rfl)) ?_
      repeat' (first | exact leF_top _ | exact (fun _ => LeR.refl _) | (with_reducible refine leF_sl ?_ ?_) | (refine leF_upd ?_ ?_))
      all_goals (first | exact LeR.top _ | exact LeR.refl _ | (refine LeR.of_eq ?_; (try simp only [go_sem]); try rfl) | ((try simp only [go_sem]); try rfl))
  · have g3 : decide ((i : Int) < (l.length : Int)) = false := decide_eq_false (by omega)
    rw [List.drop_eq_nil_of_le (by omega), idxB] at hF
    repeat' (first
     | (with_reducible first | refine t_seq fun K => ?_ | refine t_block ?_ | refine t_scope ?_ | refine t_label ?_ | refine t_skip ?_ | refine t_exit ?_ | refine t_ret ?_ | refine t_k ?_ | refine t_gF ?_ | exact kp_nil | exact Kp.refl _ | exact kp_to | refine kp_cons ?_ | refine kp_arr ?_ | refine kp_app ?_ | refine t_p ?_ | refine t_br (fun hc => ?_) fun hc => ?_)
     | ((with_reducible first | refine t_kE (t_openE ?_) | refine t_kD (t_openD ?_) | refine t_kE ?_ | refine t_kD ?_ | refine t_gS ?_ | refine t_kL ?_ | refine t_kLF ?_ ?_ | refine t_region fun K => ?_ | refine t_cond fun A B => ?_ | refine t_draw (by kernel_rfl) fun K => ?_); (try (first | refine t_hideE fun KL => ?_ | refine t_hideD fun KL => ?_)); simp only [go_sem, geff, kp97, g3, Int.toNat_natCast, strs_length, con80_f])
     | ((with_reducible refine kp_skip ?_ ?_); rfl) | simp only [thenQ, blockQ, scopeQ, Nat.reduceEqDiff, reduceIte] | (with_reducible first | refine And.intro ?_ ?_ | intro vr))
    all_goals try (first | (with_reducible assumption) | (intros; (try simp only [Bool.and_eq_true, Bool.or_eq_true, Bool.or_eq_false_iff, Bool.not_eq_true', Bool.not_eq_false', decide_eq_true_eq, decide_eq_false_iff_not, beq_iff_eq, beq_eq_false_iff_ne, bne_iff_ne, bne_eq_false_iff_eq, ne_eq, inI64, List.length_append] at *) <;> omega))
    all_goals ((first | refine end_retE ?_ | refine end_normE ?_); simp only [fin, go_sem])
    exact LeA.of_eq (by rw [← hF])
noncomputable def con97n : PCon Try.prog where
  f := 97
  c := fun
    | [x, .fn (.func 80) [] []] => match slS x with | some l => some (l.length ≤ 1000000, .lit (.int .i64 (idxB noEl l 0))) | _ => none
    | _ => none
  ok := by
    intro args p r hc hp
    split at hc
    · split at hc
      · rename_i hx
        cases hc
        exact PC.weak (idxn_pc hp) ⟨slS_le hx, LeA.refl _, trivial⟩
      · cases hc
    · cases hc
  fk := fk97
theorem con97n_f : con97n.f = 97 := rfl
theorem con97n_c {x : AV} : con97n.c [x, .fn (.func 80) [] []] = match slS x with | some l => some (l.length ≤ 1000000, .lit (.int .i64 (idxB noEl l 0))) | _ => none := rfl
noncomputable def H2 : Env := envJ (P := Try.prog) jk2 zer (fun _ => false) (fun _ => false) [con97n] []
theorem H2_ok : EnvOk Try.prog H2 := envJOk zer_ok
theorem anyn_pc {l : List ByteArray} (hl : l.length ≤ 1000000) : PC Try.prog 79 [.sl false 1 (strs l), .fn (.func 80) [] []] (.lit (.bool (l.any noEl))) := by
  rw [← idxB_any noEl l 0 (by omega)]
  refine pc_ofR H2_ok mixed (kp79) (rs := [.tmp 4]) Try.func79 rfl (by kernel_rfl) (by kernel_rfl) (Nat.le_of_ble_eq_true rfl) ?_
  simp only [initF_cons, initF_nil, Nat.reduceAdd]
  refine t_name fun KF => ?_
  unfold H2
  repeat' (first
   | (with_reducible first | refine t_seq fun K => ?_ | refine t_block ?_ | refine t_scope ?_ | refine t_label ?_ | refine t_skip ?_ | refine t_exit ?_ | refine t_ret ?_ | refine t_k ?_ | refine t_gF ?_ | exact kp_nil | exact Kp.refl _ | exact kp_to | refine kp_cons ?_ | refine kp_arr ?_ | refine kp_app ?_ | refine t_p ?_ | refine t_br (fun hc => ?_) fun hc => ?_)
   | ((with_reducible first | refine t_kE (t_openE ?_) | refine t_kD (t_openD ?_) | refine t_kE ?_ | refine t_kD ?_ | refine t_gS ?_ | refine t_kL ?_ | refine t_kLF ?_ ?_ | refine t_region fun K => ?_ | refine t_cond fun A B => ?_ | refine t_draw (by kernel_rfl) fun K => ?_); (try (first | refine t_hideE fun KL => ?_ | refine t_hideD fun KL => ?_)); simp only [go_sem, geff, kp79, con97n_f, con97n_c, slS_sl])
   | ((with_reducible refine kp_skip ?_ ?_); rfl) | simp only [thenQ, blockQ, scopeQ, Nat.reduceEqDiff, reduceIte] | (with_reducible first | refine And.intro ?_ ?_ | intro vr))
  all_goals try (first | (with_reducible assumption) | (intros; (try simp only [Bool.and_eq_true, Bool.or_eq_true, Bool.or_eq_false_iff, Bool.not_eq_true', Bool.not_eq_false', decide_eq_true_eq, decide_eq_false_iff_not, beq_iff_eq, beq_eq_false_iff_ne, bne_iff_ne, bne_eq_false_iff_eq, ne_eq, inI64, List.length_append] at *) <;> omega))
  all_goals ((first | refine end_retE ?_ | refine end_normE ?_); simp only [fin, go_sem])
  exact LeA.refl _
noncomputable def con79n : PCon Try.prog where
  f := 79
  c := fun
    | [x, .fn (.func 80) [] []] => match slS x with | some l => some (l.length ≤ 1000000, .lit (.bool (l.any noEl))) | _ => none
    | _ => none
  ok := by
    intro args p r hc hp
    split at hc
    · split at hc
      · rename_i hx
        cases hc
        exact PC.weak (anyn_pc hp) ⟨slS_le hx, LeA.refl _, trivial⟩
      · cases hc
    · cases hc
  fk := fk79
theorem con79n_f : con79n.f = 79 := rfl
theorem con79n_c {x : AV} : con79n.c [x, .fn (.func 80) [] []] = match slS x with | some l => some (l.length ≤ 1000000, .lit (.bool (l.any noEl))) | _ => none := rfl
/-- slices.Delete of one place of an own array of strings. -/
theorem ba_eta (s : ByteArray) : (⟨s.data.toList.toArray⟩ : ByteArray) = s := by simp
theorem delete_ec {σ : List AObj} {l : List ByteArray} {o ver : Nat} {k : AV → List AObj → Prop} (hl : 1 < l.length) (ho : σ[o]? = some (.arr 9 1 (strs l) ver false))
    (hk : k (.arr o (ver + 1)) (σ.set o (.arr 9 1 (strs (l.eraseIdx 1)) (ver + 1) false))) : EC Try.prog 82 [.arr o ver, .lit (.int .i64 1), .lit (.int .i64 2)] σ k := by
  have e1 : ∀ l : List ByteArray, (l.map fun s : ByteArray => s.data.toList).map (fun a => AV.lit (encStr a)) = strs l := by
    intro l; simp [strs, encStr]
  refine EC.ofRow (α := List UInt8) (enc := encStr) (m := l.length - 1) (rest := [.int .i64 1, .int .i64 2]) (d := l.map fun s : ByteArray => s.data.toList)
    (d' := ((l.map fun s : ByteArray => s.data.toList).take 1 ++ (l.map fun s : ByteArray => s.data.toList).drop 2 ++ List.replicate 1 [])) (fun _ => rfl) (by intro h; simp at h; subst h; simp at hl) (by simp; omega) (by simp) (by omega) ?_ (by rw [e1]; exact ho) ?_
  · intro g cap w hH hc hm
    have := Try.slices_Delete_string g 0 cap 1 2 (l.map fun s : ByteArray => s.data.toList) w hH hc (by unfold maxLen at hm; omega) (by omega) (by simp; omega)
    simp only [List.length_map] at this ⊢
    exact this
  · have e2 : ((((l.map fun s : ByteArray => s.data.toList).take 1 ++ (l.map fun s : ByteArray => s.data.toList).drop 2 ++ List.replicate 1 [])).take (l.length - 1)) = (l.eraseIdx 1).map fun s : ByteArray => s.data.toList := by
      match l, hl with
      | a :: b :: t, _ => simp [List.eraseIdx]
    rw [e2, e1]
    exact hk
end Go.Proofs.Ytjlcbojpiieafaa

/- The element type of a result. -/
namespace Go.Proofs.Ytjlcbojpiieafaa
open Go Go.Fw
set_option maxRecDepth 20000

def withS (xs : List AV) (p : List ByteArray → Prop) : Prop := match strsOf xs with
  | some l => p l
  | none => False
theorem withS_strs {l : List ByteArray} {p : List ByteArray → Prop} : withS (strs l) p = p l := by unfold withS; rw [strsOf_strs]
theorem withS_inv {xs : List AV} {p : List ByteArray → Prop} (h : withS xs p) : ∃ l, xs = strs l ∧ p l := by
  unfold withS at h
  split at h
  · rename_i l hl; exact ⟨l, strsOf_inv hl, h⟩
  · exact h.elim
attribute [go_sem] withS_strs
noncomputable def ecn82 : ECon Try.prog where
  f := 82
  c := fun args σ k => match args with
    | [.arr o ver, .lit (.int .i64 1), .lit (.int .i64 2)] => arrAt 9 1 σ o ver fun xs => withS xs fun l => 1 < l.length ∧ k (.arr o (ver + 1)) (σ.set o (.arr 9 1 (strs (l.eraseIdx 1)) (ver + 1) false))
    | _ => False
  ok := by
    intro args σ k h
    split at h
    · obtain ⟨xs, ho, h1⟩ := arrAt_inv h
      obtain ⟨l, hxs, h2⟩ := withS_inv h1
      subst hxs
      exact delete_ec h2.1 ho h2.2
    · exact h.elim
  fk := fk82
theorem ecn82_f : ecn82.f = 82 := rfl
theorem ecn82_c {o ver : Nat} {σ : List AObj} {k : AV → List AObj → Prop} : ecn82.c [.arr o ver, .lit (.int .i64 1), .lit (.int .i64 2)] σ k = arrAt 9 1 σ o ver fun xs => withS xs fun l => 1 < l.length ∧ k (.arr o (ver + 1)) (σ.set o (.arr 9 1 (strs (l.eraseIdx 1)) (ver + 1) false)) := rfl
theorem differ_ec {σ : List AObj} {t : ByteArray} {l : List ByteArray} {o p ver : Nat} {k : AV → List AObj → Prop} (ho : σ[o]? = some (.box 62 [.arr p ver])) (hp : σ[p]? = some (.arr 9 1 (strs l) ver false)) (hl : 0 < l.length)
    (hk : k (.lit (.bool (!eqS t (l.getD 0 ByteArray.empty)))) σ) : EC Try.prog 83 [.lit (.string t), .ref o 0] σ k := by
  refine ec_ofR F4_ok mixed (kp83) (rs := [.tmp 3]) Try.func83 rfl (by kernel_rfl) (by kernel_rfl) (Nat.le_of_ble_eq_true rfl) ?_
  simp only [initF_cons, initF_nil, Nat.reduceAdd]
  refine t_name fun KF => ?_
  unfold F4
  repeat' (first
   | (with_reducible first | refine t_seq fun K => ?_ | refine t_block ?_ | refine t_scope ?_ | refine t_label ?_ | refine t_skip ?_ | refine t_exit ?_ | refine t_ret ?_ | refine t_k ?_ | refine t_gF ?_ | exact kp_nil | exact Kp.refl _ | exact kp_to | refine kp_cons ?_ | refine kp_arr ?_ | refine kp_app ?_ | refine t_p ?_ | refine t_br (fun hc => ?_) fun hc => ?_)
   | ((with_reducible first | refine t_kE (t_openE ?_) | refine t_kD (t_openD ?_) | refine t_kE ?_ | refine t_kD ?_ | refine t_gS ?_ | refine t_kL ?_ | refine t_kLF ?_ ?_ | refine t_region fun K => ?_ | refine t_cond fun A B => ?_ | refine t_draw (by kernel_rfl) fun K => ?_); (try (first | refine t_hideE fun KL => ?_ | refine t_hideD fun KL => ?_)); simp only [go_sem, geff, kp83, ho, hp, strs_length, yes])
   | ((with_reducible refine kp_skip ?_ ?_); rfl) | simp only [thenQ, blockQ, scopeQ, Nat.reduceEqDiff, reduceIte] | (with_reducible first | refine And.intro ?_ ?_ | intro vr))
  all_goals try (first | (with_reducible assumption) | (intros; (try simp only [Bool.and_eq_true, Bool.or_eq_true, Bool.or_eq_false_iff, Bool.not_eq_true', Bool.not_eq_false', decide_eq_true_eq, decide_eq_false_iff_not, beq_iff_eq, beq_eq_false_iff_ne, bne_iff_ne, bne_eq_false_iff_eq, ne_eq, inI64, List.length_append] at *) <;> omega))
  all_goals ((first | refine end_retE ?_ | refine end_normE ?_); simp only [fin, go_sem])
  exact hk
noncomputable def ecn83 : ECon Try.prog where
  f := 83
  c := fun args σ k => match args with
    | [.lit (.string t), .ref o 0] => match σ[o]? with
      | some (.box 62 [.arr p ver]) => arrAt 9 1 σ p ver fun xs => withS xs fun l => 0 < l.length ∧ k (.lit (.bool (!eqS t (l.getD 0 ByteArray.empty)))) σ
      | _ => False
    | _ => False
  ok := by
    intro args σ k h
    split at h
    · split at h
      · rename_i ho
        obtain ⟨xs, hp, h⟩ := arrAt_inv h
        obtain ⟨l, hxs, h2⟩ := withS_inv h
        subst hxs
        exact differ_ec ho hp h2.1 h2.2
      · exact h.elim
    · exact h.elim
  fk := fk83
theorem ecn83_f : ecn83.f = 83 := rfl
theorem ecn83_c {t : ByteArray} {o : Nat} {σ : List AObj} {k : AV → List AObj → Prop} : ecn83.c [.lit (.string t), .ref o 0] σ k = match σ[o]? with
      | some (.box 62 [.arr p ver]) => arrAt 9 1 σ p ver fun xs => withS xs fun l => 0 < l.length ∧ k (.lit (.bool (!eqS t (l.getD 0 ByteArray.empty)))) σ
      | _ => False := rfl
noncomputable def H3 : Env := envJ (P := Try.prog) jk2 zer (fun _ => false) (fun _ => false) [] [ecn83]
theorem H3_ok : EnvOk Try.prog H3 := envJOk zer_ok
theorem idxd_ec {σ : List AObj} {l : List ByteArray} {o p ver : Nat} {k : AV → List AObj → Prop} (ho : σ[o]? = some (.box 62 [.arr p ver])) (hp : σ[p]? = some (.arr 9 1 (strs l) ver false)) (hl : 0 < l.length) (hb : l.length ≤ 1000000)
    (hk : k (.lit (.int .i64 (idxB (fun t => !eqS t (l.getD 0 ByteArray.empty)) l 0))) σ) : EC Try.prog 97 [.arr p ver, .fn (.func 83) [] [.ref o 0]] σ k := by
  generalize hz : l.getD 0 ByteArray.empty = z at hk
  generalize hR : idxB (fun t => !eqS t z) l 0 = R at hk
  refine ec_ofR H3_ok mixed (kp97) (rs := [.tmp 4]) Try.func97 rfl (by kernel_rfl) (by kernel_rfl) (Nat.le_of_ble_eq_true rfl) ?_
  simp only [initF_cons, initF_nil, Nat.reduceAdd]
  refine t_name fun KF => ?_
  unfold H3
  repeat' (first
   | (with_reducible first | refine t_seq fun K => ?_ | refine t_block ?_ | refine t_scope ?_ | refine t_label ?_ | refine t_skip ?_ | refine t_exit ?_ | refine t_ret ?_ | refine t_k ?_ | refine t_gF ?_ | exact kp_nil | exact Kp.refl _ | exact kp_to | refine kp_cons ?_ | refine kp_arr ?_ | refine kp_app ?_ | refine t_p ?_ | refine t_br (fun hc => ?_) fun hc => ?_)
   | ((with_reducible first | refine t_kE (t_openE ?_) | refine t_kD (t_openD ?_) | refine t_kE ?_ | refine t_kD ?_ | refine t_gS ?_ | refine t_kL ?_ | refine t_kLF ?_ ?_ | refine t_region fun K => ?_ | refine t_cond fun A B => ?_ | refine t_draw (by kernel_rfl) fun K => ?_); (try (first | refine t_hideE fun KL => ?_ | refine t_hideD fun KL => ?_)); simp only [go_sem, geff, kp97, strs_length, ecn83_f, ho, hp])
   | ((with_reducible refine kp_skip ?_ ?_); rfl) | simp only [thenQ, blockQ, scopeQ, Nat.reduceEqDiff, reduceIte] | (with_reducible first | refine And.intro ?_ ?_ | intro vr))
  refine t_loopF (ι := { i : Nat // i ≤ l.length ∧ idxB (fun t => !eqS t z) (l.drop i) i = R }) (fun i => [(8, .lit (.int .i64 i.1))]) (fun i => σ) (fun i => l.length - i.1) ⟨0, by omega, hR⟩ ?_ ?_
  · simp only [updL_nil, updL_cons, delF_top, delF_upd, Nat.reduceEqDiff, reduceIte]
    refine Le.frameS (by first | rfl | (simp only [go_sem]; try rfl)) ?_
    repeat' (first | exact leF_top _ | exact (fun _ => LeR.refl _) | (with_reducible refine leF_sl ?_ ?_) | (refine leF_upd ?_ ?_))
    all_goals (first | exact LeR.top _ | exact LeR.refl _ | (refine LeR.of_eq ?_; (try simp only [go_sem]); try rfl) | ((try simp only [go_sem]); try rfl))
  rintro ⟨i, hi, hF⟩ K0
  rcases Nat.lt_or_ge i l.length with hc | hc
  · rw [drop_getD ByteArray.empty hc, idxB] at hF
    have g3 : decide ((i : Int) < (l.length : Int)) = true := decide_eq_true (by omega)
    repeat' (first
     | (with_reducible first | refine t_seq fun K => ?_ | refine t_block ?_ | refine t_scope ?_ | refine t_label ?_ | refine t_skip ?_ | refine t_exit ?_ | refine t_ret ?_ | refine t_k ?_ | refine t_gF ?_ | exact kp_nil | exact Kp.refl _ | exact kp_to | refine kp_cons ?_ | refine kp_arr ?_ | refine kp_app ?_ | refine t_p ?_ | refine t_br (fun hc => ?_) fun hc => ?_)
     | ((with_reducible first | refine t_kE (t_openE ?_) | refine t_kD (t_openD ?_) | refine t_kE ?_ | refine t_kD ?_ | refine t_gS ?_ | refine t_kL ?_ | refine t_kLF ?_ ?_ | refine t_region fun K => ?_ | refine t_cond fun A B => ?_ | refine t_draw (by kernel_rfl) fun K => ?_); (try (first | refine t_hideE fun KL => ?_ | refine t_hideD fun KL => ?_)); simp only [go_sem, geff, kp97, g3, Int.toNat_natCast, strs_length, ecn83_f, ecn83_c, ho, hp, hz, yes])
     | ((with_reducible refine kp_skip ?_ ?_); rfl) | simp only [thenQ, blockQ, scopeQ, Nat.reduceEqDiff, reduceIte] | (with_reducible first | refine And.intro ?_ ?_ | intro vr))
    all_goals try (first | (with_reducible assumption) | (intros; (try simp only [Bool.and_eq_true, Bool.or_eq_true, Bool.or_eq_false_iff, Bool.not_eq_true', Bool.not_eq_false', decide_eq_true_eq, decide_eq_false_iff_not, beq_iff_eq, beq_eq_false_iff_ne, bne_iff_ne, bne_eq_false_iff_eq, ne_eq, inI64, List.length_append] at *) <;> omega))
    · skip
      all_goals ((first | refine end_retE ?_ | refine end_normE ?_); simp only [fin, go_sem])
      rw [if_pos hc] at hF
      rw [hF]; exact hk
    · skip
      refine ⟨⟨i + 1, by omega, by rw [if_neg (by rw [hc]; decide)] at hF; rw [← hF]; congr 1⟩, by first | (simp only; omega) | omega, ?_⟩
      simp only [updL_nil, updL_cons, delF_top, delF_upd, Nat.reduceEqDiff, reduceIte]
      refine Le.frameS (by first | rfl | (simp only [go_sem]; try rfl)) ?_
      repeat' (first | exact leF_top _ | exact (fun _ => LeR.refl _) | (with_reducible refine leF_sl ?_ ?_) | (refine leF_upd ?_ ?_))
      all_goals (first | exact LeR.top _ | exact LeR.refl _ | (refine LeR.of_eq ?_; (try simp only [go_sem]); try rfl) | ((try simp only [go_sem]); try rfl))
  · have g3 : decide ((i : Int) < (l.length : Int)) = false := decide_eq_false (by omega)
    rw [List.drop_eq_nil_of_le (by omega), idxB] at hF
    repeat' (first
     | (with_reducible first | refine t_seq fun K => ?_ | refine t_block ?_ | refine t_scope ?_ | refine t_label ?_ | refine t_skip ?_ | refine t_exit ?_ | refine t_ret ?_ | refine t_k ?_ | refine t_gF ?_ | exact kp_nil | exact Kp.refl _ | exact kp_to | refine kp_cons ?_ | refine kp_arr ?_ | refine kp_app ?_ | refine t_p ?_ | refine t_br (fun hc => ?_) fun hc => ?_)
     | ((with_reducible first | refine t_kE (t_openE ?_) | refine t_kD (t_openD ?_) | refine t_kE ?_ | refine t_kD ?_ | refine t_gS ?_ | refine t_kL ?_ | refine t_kLF ?_ ?_ | refine t_region fun K => ?_ | refine t_cond fun A B => ?_ | refine t_draw (by kernel_rfl) fun K => ?_); (try (first | refine t_hideE fun KL => ?_ | refine t_hideD fun KL => ?_)); simp only [go_sem, geff, kp97, g3, Int.toNat_natCast, strs_length, ecn83_f, ho, hp])
     | ((with_reducible refine kp_skip ?_ ?_); rfl) | simp only [thenQ, blockQ, scopeQ, Nat.reduceEqDiff, reduceIte] | (with_reducible first | refine And.intro ?_ ?_ | intro vr))
    all_goals try (first | (with_reducible assumption) | (intros; (try simp only [Bool.and_eq_true, Bool.or_eq_true, Bool.or_eq_false_iff, Bool.not_eq_true', Bool.not_eq_false', decide_eq_true_eq, decide_eq_false_iff_not, beq_iff_eq, beq_eq_false_iff_ne, bne_iff_ne, bne_eq_false_iff_eq, ne_eq, inI64, List.length_append] at *) <;> omega))
    all_goals ((first | refine end_retE ?_ | refine end_normE ?_); simp only [fin, go_sem])
    rw [hF]; exact hk
noncomputable def ecn97 : ECon Try.prog where
  f := 97
  c := fun args σ k => match args with
    | [.arr p ver, .fn (.func 83) [] [.ref o 0]] => match σ[o]? with
      | some (.box 62 [.arr p' ver']) => (p' = p ∧ ver' = ver) ∧ arrAt 9 1 σ p ver fun xs => withS xs fun l => 0 < l.length ∧ l.length ≤ 1000000 ∧ k (.lit (.int .i64 (idxB (fun t => !eqS t (l.getD 0 ByteArray.empty)) l 0))) σ
      | _ => False
    | _ => False
  ok := by
    intro args σ k h
    split at h
    · split at h
      · rename_i ho
        obtain ⟨⟨rfl, rfl⟩, h⟩ := h
        obtain ⟨xs, hp, h⟩ := arrAt_inv h
        obtain ⟨l, hxs, h2⟩ := withS_inv h
        subst hxs
        exact idxd_ec ho hp h2.1 h2.2.1 h2.2.2
      · exact h.elim
    · exact h.elim
  fk := fk97
theorem ecn97_f : ecn97.f = 97 := rfl
theorem ecn97_c {p ver o : Nat} {σ : List AObj} {k : AV → List AObj → Prop} : ecn97.c [.arr p ver, .fn (.func 83) [] [.ref o 0]] σ k = match σ[o]? with
      | some (.box 62 [.arr p' ver']) => (p' = p ∧ ver' = ver) ∧ arrAt 9 1 σ p ver fun xs => withS xs fun l => 0 < l.length ∧ l.length ≤ 1000000 ∧ k (.lit (.int .i64 (idxB (fun t => !eqS t (l.getD 0 ByteArray.empty)) l 0))) σ
      | _ => False := rfl
noncomputable def H4 : Env := envJ (P := Try.prog) jk2 zer (fun _ => false) (fun _ => false) [] [ecn97]
theorem H4_ok : EnvOk Try.prog H4 := envJOk zer_ok
theorem anyd_ec {σ : List AObj} {l : List ByteArray} {o p ver : Nat} {k : AV → List AObj → Prop} (ho : σ[o]? = some (.box 62 [.arr p ver])) (hp : σ[p]? = some (.arr 9 1 (strs l) ver false)) (hl : 0 < l.length) (hb : l.length ≤ 1000000)
    (hk : k (.lit (.bool (l.any fun t => !eqS t (l.getD 0 ByteArray.empty)))) σ) : EC Try.prog 79 [.arr p ver, .fn (.func 83) [] [.ref o 0]] σ k := by
  rw [← idxB_any _ l 0 (by omega)] at hk
  refine ec_ofR H4_ok mixed (kp79) (rs := [.tmp 4]) Try.func79 rfl (by kernel_rfl) (by kernel_rfl) (Nat.le_of_ble_eq_true rfl) ?_
  simp only [initF_cons, initF_nil, Nat.reduceAdd]
  refine t_name fun KF => ?_
  unfold H4
  repeat' (first
   | (with_reducible first | refine t_seq fun K => ?_ | refine t_block ?_ | refine t_scope ?_ | refine t_label ?_ | refine t_skip ?_ | refine t_exit ?_ | refine t_ret ?_ | refine t_k ?_ | refine t_gF ?_ | exact kp_nil | exact Kp.refl _ | exact kp_to | refine kp_cons ?_ | refine kp_arr ?_ | refine kp_app ?_ | refine t_p ?_ | refine t_br (fun hc => ?_) fun hc => ?_)
   | ((with_reducible first | refine t_kE (t_openE ?_) | refine t_kD (t_openD ?_) | refine t_kE ?_ | refine t_kD ?_ | refine t_gS ?_ | refine t_kL ?_ | refine t_kLF ?_ ?_ | refine t_region fun K => ?_ | refine t_cond fun A B => ?_ | refine t_draw (by kernel_rfl) fun K => ?_); (try (first | refine t_hideE fun KL => ?_ | refine t_hideD fun KL => ?_)); simp only [go_sem, geff, kp79, ecn97_f, ecn97_c, ho, hp])
   | ((with_reducible refine kp_skip ?_ ?_); rfl) | simp only [thenQ, blockQ, scopeQ, Nat.reduceEqDiff, reduceIte] | (with_reducible first | refine And.intro ?_ ?_ | intro vr))
  all_goals try (first | (with_reducible assumption) | (intros; (try simp only [Bool.and_eq_true, Bool.or_eq_true, Bool.or_eq_false_iff, Bool.not_eq_true', Bool.not_eq_false', decide_eq_true_eq, decide_eq_false_iff_not, beq_iff_eq, beq_eq_false_iff_ne, bne_iff_ne, bne_eq_false_iff_eq, ne_eq, inI64, List.length_append] at *) <;> omega))
  all_goals ((first | refine end_retE ?_ | refine end_normE ?_); simp only [fin, go_sem])
  exact hk
noncomputable def ecn79 : ECon Try.prog where
  f := 79
  c := fun args σ k => match args with
    | [.arr p ver, .fn (.func 83) [] [.ref o 0]] => match σ[o]? with
      | some (.box 62 [.arr p' ver']) => (p' = p ∧ ver' = ver) ∧ arrAt 9 1 σ p ver fun xs => withS xs fun l => 0 < l.length ∧ l.length ≤ 1000000 ∧ k (.lit (.bool (l.any fun t => !eqS t (l.getD 0 ByteArray.empty)))) σ
      | _ => False
    | _ => False
  ok := by
    intro args σ k h
    split at h
    · split at h
      · rename_i ho
        obtain ⟨⟨rfl, rfl⟩, h⟩ := h
        obtain ⟨xs, hp, h⟩ := arrAt_inv h
        obtain ⟨l, hxs, h2⟩ := withS_inv h
        subst hxs
        exact anyd_ec ho hp h2.1 h2.2.1 h2.2.2
      · exact h.elim
    · exact h.elim
  fk := fk79
theorem ecn79_f : ecn79.f = 79 := rfl
theorem ecn79_c {p ver o : Nat} {σ : List AObj} {k : AV → List AObj → Prop} : ecn79.c [.arr p ver, .fn (.func 83) [] [.ref o 0]] σ k = match σ[o]? with
      | some (.box 62 [.arr p' ver']) => (p' = p ∧ ver' = ver) ∧ arrAt 9 1 σ p ver fun xs => withS xs fun l => 0 < l.length ∧ l.length ≤ 1000000 ∧ k (.lit (.bool (l.any fun t => !eqS t (l.getD 0 ByteArray.empty)))) σ
      | _ => False := rfl
def selS (op : ByteArray) : Bool := eqS op n_index || eqS op n_update
def sameS (op : ByteArray) (l : List ByteArray) : List ByteArray := if selS op = true then l.eraseIdx 1 else l
def resultS (op : ByteArray) (l : List ByteArray) : ByteArray × Bool :=
  if (ranksI op l.length).2 = false ∨ l.any noEl = true then (ByteArray.empty, false)
  else if selS op = true ∧ eqS (l.getD 1 ByteArray.empty) sInt = false then (ByteArray.empty, false)
  else if sameS op l = [] then (sInt, true)
  else if ((sameS op l).any fun t => !eqS t ((sameS op l).getD 0 ByteArray.empty)) = true then (ByteArray.empty, false)
  else ((sameS op l).getD 0 ByteArray.empty, true)
def sbV (r : ByteArray × Bool) : AV := .tup [.lit (.string r.1), .lit (.bool r.2)]
theorem sbV_def {r : ByteArray × Bool} : sbV r = .tup [.lit (.string r.1), .lit (.bool r.2)] := rfl
theorem sb_of {s : ByteArray} {b : Bool} {r : ByteArray × Bool} (h : r = (s, b)) : LeA (.tup [.lit (.string s), .lit (.bool b)]) (sbV r) := by subst h; exact LeA.refl _
theorem sel_len {op : ByteArray} {n : Nat} (h : (ranksI op n).2 = true) (hs : selS op = true) : 1 < n := by
  unfold selS at hs
  rw [Bool.or_eq_true] at hs
  rcases hs with hs | hs
  · rw [eqS_iff.1 hs] at h
    unfold ranksI at h
    rw [show findS n_index n = (ents.getD 10 ent0, true) from rfl] at h
    split at h
    · cases h
    · rename_i hh; simp [ents] at hh; omega
  · rw [eqS_iff.1 hs] at h
    unfold ranksI at h
    rw [show findS n_update n = (ents.getD 11 ent0, true) from rfl] at h
    split at h
    · cases h
    · rename_i hh; simp [ents] at hh; omega
noncomputable def H5 : Env := envJ (P := Try.prog) jk2 zer (fun _ => false) (fun t => t == 20) [con50, con79n] [ecn79, ecn81, ecn82]
theorem H5_ok : EnvOk Try.prog H5 := envJOk zer_ok
set_option maxHeartbeats 4000000 in
theorem result_pc {op : ByteArray} {l : List ByteArray} (hl : l.length ≤ 1000000) : PC Try.prog 42 [.lit (.string op), .sl false 1 (strs l)] (sbV (resultS op l)) := by
  generalize hR : resultS op l = R
  unfold resultS at hR
  by_cases h1 : (ranksI op l.length).2 = false ∨ l.any noEl = true
  · rw [if_pos h1] at hR
    have h1' : (!(ranksI op l.length).2 || l.any noEl) = true := by simpa using h1
    subst hR
    cases hr : (ranksI op l.length).2 with
    | false =>
      refine pc_ofR H5_ok mixed (kp42) (rs := [.tmp 4, .tmp 5]) Try.func42 rfl (by kernel_rfl) (by kernel_rfl) (Nat.le_of_ble_eq_true rfl) ?_
      simp only [initF_cons, initF_nil, Nat.reduceAdd]
      refine t_name fun KF => ?_
      unfold H5
      repeat' (first
        | with_reducible refine t_seq fun K => ?_
        | with_reducible refine t_block ?_
        | with_reducible refine t_scope ?_
        | with_reducible refine t_label ?_
        | with_reducible refine t_skip ?_
        | with_reducible refine t_exit ?_
        | with_reducible refine t_ret ?_
        | with_reducible refine t_k ?_
        | (with_reducible refine t_gF ?_)
        | ((first | with_reducible refine t_kE (t_openE ?_) | with_reducible refine t_kD (t_openD ?_) | with_reducible refine t_kE ?_ | with_reducible refine t_kD ?_ | with_reducible refine t_gS ?_ | with_reducible refine t_kL ?_ | (with_reducible refine t_kLE ?_ ?_; rotate_left) | with_reducible refine t_region fun K => ?_ | with_reducible refine t_draw (by kernel_rfl) fun K => ?_); (try (first | refine t_hideE fun KL => ?_ | refine t_hideD fun KL => ?_)); simp only [go_sem, geff_true, geff_false, kp42, con50_f, con79n_f, ecn79_f, ecn81_f, ecn82_f, con50_c, con79n_c, ecn79_c, ecn81_c, ecn82_c, strs_length, slS_sl, rkV_def, yes, hr])
        | (with_reducible exact kp_nil)
        | (with_reducible exact Kp.refl _)
        | (with_reducible exact kp_to)
        | (with_reducible refine kp_cons ?_)
        | (with_reducible refine kp_arr ?_)
        | (with_reducible refine kp_app ?_)
        | ((with_reducible refine kp_skip ?_ ?_); rfl)
        | ((with_reducible refine t_cond fun A B => ?_); simp only [go_sem, geff_true, geff_false, kp42, con50_f, con79n_f, ecn79_f, ecn81_f, ecn82_f, con50_c, con79n_c, ecn79_c, ecn81_c, ecn82_c, strs_length, slS_sl, rkV_def, yes, hr]; first | (with_reducible refine A.h ?_) | (with_reducible refine B.h ?_) | (refine And.intro (fun hc => A.h ?_) (fun hc => B.h ?_)))
        | ((with_reducible refine t_geffS (fun hg => ?_) (fun hg => ?_)) <;> ((try simp only [Bool.not_eq_true', Bool.not_eq_false', Bool.and_eq_true, Bool.or_eq_false_iff] at hg); simp only [hg, go_sem, geff_true, geff_false, kp42, con50_f, con79n_f, ecn79_f, ecn81_f, ecn82_f, con50_c, con79n_c, ecn79_c, ecn81_c, ecn82_c, strs_length, slS_sl, rkV_def, yes, hr]))
        | simp only [thenQ_n, thenQ_r, thenQ_e, blockQ_n, blockQ_r, blockQ_e, scopeQ_n, scopeQ_r, scopeQ_e, Nat.reduceEqDiff, reduceIte]
        | (with_reducible refine And.intro ?_ ?_)
        | with_reducible intro vr)
      all_goals try (first | (with_reducible assumption) | (intros; (try simp only [Bool.and_eq_true, Bool.or_eq_true, Bool.or_eq_false_iff, Bool.not_eq_true', Bool.not_eq_false', decide_eq_true_eq, decide_eq_false_iff_not, beq_iff_eq, beq_eq_false_iff_ne, bne_iff_ne, bne_eq_false_iff_eq, ne_eq, inI64, List.length_append] at *) <;> omega))
      all_goals ((first | refine end_retE ?_ | refine end_normE ?_); simp only [fin, go_sem])
      all_goals exact sb_of rfl
    | true =>
      have hn : l.any noEl = true := by rcases h1 with h | h; rw [hr] at h; cases h; exact h
      refine pc_ofR H5_ok mixed (kp42) (rs := [.tmp 4, .tmp 5]) Try.func42 rfl (by kernel_rfl) (by kernel_rfl) (Nat.le_of_ble_eq_true rfl) ?_
      simp only [initF_cons, initF_nil, Nat.reduceAdd]
      refine t_name fun KF => ?_
      unfold H5
      repeat' (first
        | with_reducible refine t_seq fun K => ?_
        | with_reducible refine t_block ?_
        | with_reducible refine t_scope ?_
        | with_reducible refine t_label ?_
        | with_reducible refine t_skip ?_
        | with_reducible refine t_exit ?_
        | with_reducible refine t_ret ?_
        | with_reducible refine t_k ?_
        | (with_reducible refine t_gF ?_)
        | ((first | with_reducible refine t_kE (t_openE ?_) | with_reducible refine t_kD (t_openD ?_) | with_reducible refine t_kE ?_ | with_reducible refine t_kD ?_ | with_reducible refine t_gS ?_ | with_reducible refine t_kL ?_ | (with_reducible refine t_kLE ?_ ?_; rotate_left) | with_reducible refine t_region fun K => ?_ | with_reducible refine t_draw (by kernel_rfl) fun K => ?_); (try (first | refine t_hideE fun KL => ?_ | refine t_hideD fun KL => ?_)); simp only [go_sem, geff_true, geff_false, kp42, con50_f, con79n_f, ecn79_f, ecn81_f, ecn82_f, con50_c, con79n_c, ecn79_c, ecn81_c, ecn82_c, strs_length, slS_sl, rkV_def, yes, hr, hn])
        | (with_reducible exact kp_nil)
        | (with_reducible exact Kp.refl _)
        | (with_reducible exact kp_to)
        | (with_reducible refine kp_cons ?_)
        | (with_reducible refine kp_arr ?_)
        | (with_reducible refine kp_app ?_)
        | ((with_reducible refine kp_skip ?_ ?_); rfl)
        | ((with_reducible refine t_cond fun A B => ?_); simp only [go_sem, geff_true, geff_false, kp42, con50_f, con79n_f, ecn79_f, ecn81_f, ecn82_f, con50_c, con79n_c, ecn79_c, ecn81_c, ecn82_c, strs_length, slS_sl, rkV_def, yes, hr, hn]; first | (with_reducible refine A.h ?_) | (with_reducible refine B.h ?_) | (refine And.intro (fun hc => A.h ?_) (fun hc => B.h ?_)))
        | ((with_reducible refine t_geffS (fun hg => ?_) (fun hg => ?_)) <;> ((try simp only [Bool.not_eq_true', Bool.not_eq_false', Bool.and_eq_true, Bool.or_eq_false_iff] at hg); simp only [hg, go_sem, geff_true, geff_false, kp42, con50_f, con79n_f, ecn79_f, ecn81_f, ecn82_f, con50_c, con79n_c, ecn79_c, ecn81_c, ecn82_c, strs_length, slS_sl, rkV_def, yes, hr, hn]))
        | simp only [thenQ_n, thenQ_r, thenQ_e, blockQ_n, blockQ_r, blockQ_e, scopeQ_n, scopeQ_r, scopeQ_e, Nat.reduceEqDiff, reduceIte]
        | (with_reducible refine And.intro ?_ ?_)
        | with_reducible intro vr)
      all_goals try (first | (with_reducible assumption) | (intros; (try simp only [Bool.and_eq_true, Bool.or_eq_true, Bool.or_eq_false_iff, Bool.not_eq_true', Bool.not_eq_false', decide_eq_true_eq, decide_eq_false_iff_not, beq_iff_eq, beq_eq_false_iff_ne, bne_iff_ne, bne_eq_false_iff_eq, ne_eq, inI64, List.length_append] at *) <;> omega))
      all_goals ((first | refine end_retE ?_ | refine end_normE ?_); simp only [fin, go_sem])
      all_goals exact sb_of rfl
  · rw [if_neg h1] at hR
    have hr : (ranksI op l.length).2 = true := by
      cases h : (ranksI op l.length).2 with
      | true => rfl
      | false => exact absurd (.inl h) h1
    have hn : l.any noEl = false := by
      cases h : l.any noEl with
      | false => rfl
      | true => exact absurd (.inr h) h1
    have hlen := sel_len (op := op) (n := l.length) hr
    by_cases hs : selS op = true
    · have hs' : (eqS op ⟨#[105, 110, 100, 101, 120]⟩ || eqS op ⟨#[117, 112, 100, 97, 116, 101]⟩) = true := hs
      have hlen := hlen hs
      unfold sameS at hR
      simp only [hs, if_true, true_and] at hR
      cases he : eqS (l.getD 1 ByteArray.empty) ⟨#[105, 110, 116]⟩ with
      | false =>
        rw [if_pos (show eqS (l.getD 1 ByteArray.empty) sInt = false from he)] at hR
        refine pc_ofR H5_ok mixed (kp42) (rs := [.tmp 4, .tmp 5]) Try.func42 rfl (by kernel_rfl) (by kernel_rfl) (Nat.le_of_ble_eq_true rfl) ?_
        simp only [initF_cons, initF_nil, Nat.reduceAdd]
        refine t_name fun KF => ?_
        unfold H5
        repeat' (first
          | with_reducible refine t_seq fun K => ?_
          | with_reducible refine t_block ?_
          | with_reducible refine t_scope ?_
          | with_reducible refine t_label ?_
          | with_reducible refine t_skip ?_
          | with_reducible refine t_exit ?_
          | with_reducible refine t_ret ?_
          | with_reducible refine t_k ?_
          | (with_reducible refine t_gF ?_)
          | ((first | with_reducible refine t_kE (t_openE ?_) | with_reducible refine t_kD (t_openD ?_) | with_reducible refine t_kE ?_ | with_reducible refine t_kD ?_ | with_reducible refine t_gS ?_ | with_reducible refine t_kL ?_ | (with_reducible refine t_kLE ?_ ?_; rotate_left) | with_reducible refine t_region fun K => ?_ | with_reducible refine t_draw (by kernel_rfl) fun K => ?_); (try (first | refine t_hideE fun KL => ?_ | refine t_hideD fun KL => ?_)); simp only [go_sem, geff_true, geff_false, kp42, con50_f, con79n_f, ecn79_f, ecn81_f, ecn82_f, con50_c, con79n_c, ecn79_c, ecn81_c, ecn82_c, strs_length, slS_sl, rkV_def, yes, hr, hn, hs', he])
          | (with_reducible exact kp_nil)
          | (with_reducible exact Kp.refl _)
          | (with_reducible exact kp_to)
          | (with_reducible refine kp_cons ?_)
          | (with_reducible refine kp_arr ?_)
          | (with_reducible refine kp_app ?_)
          | ((with_reducible refine kp_skip ?_ ?_); rfl)
          | ((with_reducible refine t_cond fun A B => ?_); simp only [go_sem, geff_true, geff_false, kp42, con50_f, con79n_f, ecn79_f, ecn81_f, ecn82_f, con50_c, con79n_c, ecn79_c, ecn81_c, ecn82_c, strs_length, slS_sl, rkV_def, yes, hr, hn, hs', he]; first | (with_reducible refine A.h ?_) | (with_reducible refine B.h ?_) | (refine And.intro (fun hc => A.h ?_) (fun hc => B.h ?_)))
          | ((with_reducible refine t_geffS (fun hg => ?_) (fun hg => ?_)) <;> ((try simp only [Bool.not_eq_true', Bool.not_eq_false', Bool.and_eq_true, Bool.or_eq_false_iff] at hg); simp only [hg, go_sem, geff_true, geff_false, kp42, con50_f, con79n_f, ecn79_f, ecn81_f, ecn82_f, con50_c, con79n_c, ecn79_c, ecn81_c, ecn82_c, strs_length, slS_sl, rkV_def, yes, hr, hn, hs', he]))
          | simp only [thenQ_n, thenQ_r, thenQ_e, blockQ_n, blockQ_r, blockQ_e, scopeQ_n, scopeQ_r, scopeQ_e, Nat.reduceEqDiff, reduceIte]
          | (with_reducible refine And.intro ?_ ?_)
          | with_reducible intro vr)
        all_goals try (first | (with_reducible assumption) | (intros; (try simp only [Bool.and_eq_true, Bool.or_eq_true, Bool.or_eq_false_iff, Bool.not_eq_true', Bool.not_eq_false', decide_eq_true_eq, decide_eq_false_iff_not, beq_iff_eq, beq_eq_false_iff_ne, bne_iff_ne, bne_eq_false_iff_eq, ne_eq, inI64, List.length_append] at *) <;> omega))
        all_goals ((first | refine end_retE ?_ | refine end_normE ?_); simp only [fin, go_sem])
        all_goals exact sb_of hR.symm
      | true =>
        rw [if_neg (by rw [show eqS (l.getD 1 ByteArray.empty) sInt = true from he]; decide)] at hR
        have hll : (l.eraseIdx 1).length = l.length - 1 := by rw [List.length_eraseIdx, if_pos hlen]
        have hz : (((l.eraseIdx 1).length : Int) == 0) = false := by rw [beq_eq_false_iff_ne]; omega
        rw [if_neg (by intro h; rw [h] at hll; simp at hll; omega)] at hR
        have hb : (l.eraseIdx 1).length ≤ 1000000 := by omega
        have hp : 0 < (l.eraseIdx 1).length := by omega
        refine pc_ofR H5_ok mixed (kp42) (rs := [.tmp 4, .tmp 5]) Try.func42 rfl (by kernel_rfl) (by kernel_rfl) (Nat.le_of_ble_eq_true rfl) ?_
        simp only [initF_cons, initF_nil, Nat.reduceAdd]
        refine t_name fun KF => ?_
        unfold H5
        repeat' (first
          | with_reducible refine t_seq fun K => ?_
          | with_reducible refine t_block ?_
          | with_reducible refine t_scope ?_
          | with_reducible refine t_label ?_
          | with_reducible refine t_skip ?_
          | with_reducible refine t_exit ?_
          | with_reducible refine t_ret ?_
          | with_reducible refine t_k ?_
          | (with_reducible refine t_gF ?_)
          | ((first | with_reducible refine t_kE (t_openE ?_) | with_reducible refine t_kD (t_openD ?_) | with_reducible refine t_kE ?_ | with_reducible refine t_kD ?_ | with_reducible refine t_gS ?_ | with_reducible refine t_kL ?_ | (with_reducible refine t_kLE ?_ ?_; rotate_left) | with_reducible refine t_region fun K => ?_ | with_reducible refine t_draw (by kernel_rfl) fun K => ?_); (try (first | refine t_hideE fun KL => ?_ | refine t_hideD fun KL => ?_)); simp only [go_sem, geff_true, geff_false, kp42, con50_f, con79n_f, ecn79_f, ecn81_f, ecn82_f, con50_c, con79n_c, ecn79_c, ecn81_c, ecn82_c, strs_length, slS_sl, rkV_def, yes, hr, hn, hs', he, hz])
          | (with_reducible exact kp_nil)
          | (with_reducible exact Kp.refl _)
          | (with_reducible exact kp_to)
          | (with_reducible refine kp_cons ?_)
          | (with_reducible refine kp_arr ?_)
          | (with_reducible refine kp_app ?_)
          | ((with_reducible refine kp_skip ?_ ?_); rfl)
          | ((with_reducible refine t_cond fun A B => ?_); simp only [go_sem, geff_true, geff_false, kp42, con50_f, con79n_f, ecn79_f, ecn81_f, ecn82_f, con50_c, con79n_c, ecn79_c, ecn81_c, ecn82_c, strs_length, slS_sl, rkV_def, yes, hr, hn, hs', he, hz]; first | (with_reducible refine A.h ?_) | (with_reducible refine B.h ?_) | (refine And.intro (fun hc => A.h ?_) (fun hc => B.h ?_)))
          | ((with_reducible refine t_geffS (fun hg => ?_) (fun hg => ?_)) <;> ((try simp only [Bool.not_eq_true', Bool.not_eq_false', Bool.and_eq_true, Bool.or_eq_false_iff] at hg); simp only [hg, go_sem, geff_true, geff_false, kp42, con50_f, con79n_f, ecn79_f, ecn81_f, ecn82_f, con50_c, con79n_c, ecn79_c, ecn81_c, ecn82_c, strs_length, slS_sl, rkV_def, yes, hr, hn, hs', he, hz]))
          | simp only [thenQ_n, thenQ_r, thenQ_e, blockQ_n, blockQ_r, blockQ_e, scopeQ_n, scopeQ_r, scopeQ_e, Nat.reduceEqDiff, reduceIte]
          | (with_reducible refine And.intro ?_ ?_)
          | with_reducible intro vr)
        all_goals try (first | (with_reducible assumption) | (intros; (try simp only [Bool.and_eq_true, Bool.or_eq_true, Bool.or_eq_false_iff, Bool.not_eq_true', Bool.not_eq_false', decide_eq_true_eq, decide_eq_false_iff_not, beq_iff_eq, beq_eq_false_iff_ne, bne_iff_ne, bne_eq_false_iff_eq, ne_eq, inI64, List.length_append] at *) <;> omega))
        all_goals ((first | refine end_retE ?_ | refine end_normE ?_); simp only [fin, go_sem])
        · rw [if_pos hc] at hR
          exact sb_of hR.symm
        · rw [if_neg (by rw [hc]; decide)] at hR
          exact sb_of hR.symm
    · have hs' : (eqS op ⟨#[105, 110, 100, 101, 120]⟩ || eqS op ⟨#[117, 112, 100, 97, 116, 101]⟩) = false := Bool.eq_false_iff.2 hs
      unfold sameS at hR
      simp only [hs, reduceCtorEq, if_false, false_and] at hR
      refine pc_ofR H5_ok mixed (kp42) (rs := [.tmp 4, .tmp 5]) Try.func42 rfl (by kernel_rfl) (by kernel_rfl) (Nat.le_of_ble_eq_true rfl) ?_
      simp only [initF_cons, initF_nil, Nat.reduceAdd]
      refine t_name fun KF => ?_
      unfold H5
      repeat' (first
        | with_reducible refine t_seq fun K => ?_
        | with_reducible refine t_block ?_
        | with_reducible refine t_scope ?_
        | with_reducible refine t_label ?_
        | with_reducible refine t_skip ?_
        | with_reducible refine t_exit ?_
        | with_reducible refine t_ret ?_
        | with_reducible refine t_k ?_
        | (with_reducible refine t_gF ?_)
        | ((first | with_reducible refine t_kE (t_openE ?_) | with_reducible refine t_kD (t_openD ?_) | with_reducible refine t_kE ?_ | with_reducible refine t_kD ?_ | with_reducible refine t_gS ?_ | with_reducible refine t_kL ?_ | (with_reducible refine t_kLE ?_ ?_; rotate_left) | with_reducible refine t_region fun K => ?_ | with_reducible refine t_draw (by kernel_rfl) fun K => ?_); (try (first | refine t_hideE fun KL => ?_ | refine t_hideD fun KL => ?_)); simp only [go_sem, geff_true, geff_false, kp42, con50_f, con79n_f, ecn79_f, ecn81_f, ecn82_f, con50_c, con79n_c, ecn79_c, ecn81_c, ecn82_c, strs_length, slS_sl, rkV_def, yes, hr, hn, hs'])
        | (with_reducible exact kp_nil)
        | (with_reducible exact Kp.refl _)
        | (with_reducible exact kp_to)
        | (with_reducible refine kp_cons ?_)
        | (with_reducible refine kp_arr ?_)
        | (with_reducible refine kp_app ?_)
        | ((with_reducible refine kp_skip ?_ ?_); rfl)
        | ((with_reducible refine t_cond fun A B => ?_); simp only [go_sem, geff_true, geff_false, kp42, con50_f, con79n_f, ecn79_f, ecn81_f, ecn82_f, con50_c, con79n_c, ecn79_c, ecn81_c, ecn82_c, strs_length, slS_sl, rkV_def, yes, hr, hn, hs']; first | (with_reducible refine A.h ?_) | (with_reducible refine B.h ?_) | (refine And.intro (fun hc => A.h ?_) (fun hc => B.h ?_)))
        | ((with_reducible refine t_geffS (fun hg => ?_) (fun hg => ?_)) <;> ((try simp only [Bool.not_eq_true', Bool.not_eq_false', Bool.and_eq_true, Bool.or_eq_false_iff] at hg); simp only [hg, go_sem, geff_true, geff_false, kp42, con50_f, con79n_f, ecn79_f, ecn81_f, ecn82_f, con50_c, con79n_c, ecn79_c, ecn81_c, ecn82_c, strs_length, slS_sl, rkV_def, yes, hr, hn, hs']))
        | simp only [thenQ_n, thenQ_r, thenQ_e, blockQ_n, blockQ_r, blockQ_e, scopeQ_n, scopeQ_r, scopeQ_e, Nat.reduceEqDiff, reduceIte]
        | (with_reducible refine And.intro ?_ ?_)
        | with_reducible intro vr)
      all_goals try (first | (with_reducible assumption) | (intros; (try simp only [Bool.and_eq_true, Bool.or_eq_true, Bool.or_eq_false_iff, Bool.not_eq_true', Bool.not_eq_false', decide_eq_true_eq, decide_eq_false_iff_not, beq_iff_eq, beq_eq_false_iff_ne, bne_iff_ne, bne_eq_false_iff_eq, ne_eq, inI64, List.length_append] at *) <;> omega))
      all_goals ((first | refine end_retE ?_ | refine end_normE ?_); simp only [fin, go_sem])
      · have hl0 : l = [] := List.eq_nil_of_length_eq_zero (by have := beq_iff_eq.1 hc; omega)
        rw [if_pos hl0] at hR
        exact sb_of hR.symm
      · rw [if_neg (by intro h; subst h; simp_all), if_pos hc] at hR
        exact sb_of hR.symm
      · rw [if_neg (by intro h; subst h; simp_all), if_neg (by rw [hc]; decide)] at hR
        exact sb_of hR.symm
noncomputable def con42 : PCon Try.prog where
  f := 42
  c := fun
    | [.lit (.string op), xl] => match slS xl with | some l => some (l.length ≤ 1000000, sbV (resultS op l)) | _ => none
    | _ => none
  ok := by
    intro args p r hc hp
    split at hc
    · split at hc
      · rename_i hl
        cases hc
        exact PC.weak (result_pc hp) ⟨LeA.refl _, slS_le hl, trivial⟩
      · cases hc
    · cases hc
  fk := fk42
theorem con42_f : con42.f = 42 := rfl
theorem con42_c {op : ByteArray} {xl : AV} : con42.c [.lit (.string op), xl] = match slS xl with | some l => some (l.length ≤ 1000000, sbV (resultS op l)) | _ => none := rfl
end Go.Proofs.Ytjlcbojpiieafaa

/- The element type of a result (reference). -/
namespace Go.Proofs.Ytjlcbojpiieafaa
open Go Go.Fw
set_option maxRecDepth 20000

def resR (op : ByteArray) : List ByteArray → Int → ByteArray → ByteArray × Bool
  | [], _, free => if eqS op n_iota = true then (sInt, true) else (free, true)
  | t :: r, i, free => if noEl t = true then (ByteArray.empty, false)
    else if (selS op && (i == 1)) = true then (if (!eqS t sInt) = true then (ByteArray.empty, false) else resR op r (i + 1) free)
    else if (!eqS free ByteArray.empty && !eqS free t) = true then (ByteArray.empty, false) else resR op r (i + 1) t
noncomputable def H6 : Env := envJ (P := Try.prog) jk2 zer (fun _ => false) (fun _ => false) [con51] []
theorem H6_ok : EnvOk Try.prog H6 := envJOk zer_ok
def rresS (op : ByteArray) (l : List ByteArray) : ByteArray × Bool := if (ranksQ op l.length).2 = false then (ByteArray.empty, false) else resR op l 0 ByteArray.empty
set_option maxHeartbeats 4000000 in
theorem rresult_pc {op : ByteArray} {l : List ByteArray} (hl : l.length ≤ 1000000) : PC Try.prog 52 [.lit (.string op), .sl false 1 (strs l)] (sbV (rresS op l)) := by
  generalize hR : rresS op l = R
  unfold rresS at hR
  cases hr : (ranksQ op l.length).2 with
  | false =>
    rw [if_pos hr] at hR
    refine pc_ofR H6_ok mixed (kp52) (rs := [.tmp 4, .tmp 5]) Try.func52 rfl (by kernel_rfl) (by kernel_rfl) (Nat.le_of_ble_eq_true rfl) ?_
    simp only [initF_cons, initF_nil, Nat.reduceAdd]
    refine t_name fun KF => ?_
    unfold H6
    repeat' (first
     | (with_reducible first | refine t_seq fun K => ?_ | refine t_block ?_ | refine t_scope ?_ | refine t_label ?_ | refine t_skip ?_ | refine t_exit ?_ | refine t_ret ?_ | refine t_k ?_ | refine t_gF ?_ | exact kp_nil | exact Kp.refl _ | exact kp_to | refine kp_cons ?_ | refine kp_arr ?_ | refine kp_app ?_ | refine t_p ?_ | refine t_br (fun hc => ?_) fun hc => ?_)
     | ((with_reducible first | refine t_kE (t_openE ?_) | refine t_kD (t_openD ?_) | refine t_kE ?_ | refine t_kD ?_ | refine t_gS ?_ | refine t_kL ?_ | refine t_kLF ?_ ?_ | refine t_region fun K => ?_ | refine t_cond fun A B => ?_ | refine t_draw (by kernel_rfl) fun K => ?_); (try (first | refine t_hideE fun KL => ?_ | refine t_hideD fun KL => ?_)); simp only [go_sem, geff, kp52, con51_f, con51_c, strs_length, rkV_def, hr])
     | ((with_reducible refine kp_skip ?_ ?_); rfl) | simp only [thenQ, blockQ, scopeQ, Nat.reduceEqDiff, reduceIte] | (with_reducible first | refine And.intro ?_ ?_ | intro vr))
    all_goals try (first | (with_reducible assumption) | (intros; (try simp only [Bool.and_eq_true, Bool.or_eq_true, Bool.or_eq_false_iff, Bool.not_eq_true', Bool.not_eq_false', decide_eq_true_eq, decide_eq_false_iff_not, beq_iff_eq, beq_eq_false_iff_ne, bne_iff_ne, bne_eq_false_iff_eq, ne_eq, inI64, List.length_append] at *) <;> omega))
    all_goals ((first | refine end_retE ?_ | refine end_normE ?_); simp only [fin, go_sem])
    all_goals exact sb_of hR.symm
  | true =>
    rw [if_neg (by rw [hr]; decide)] at hR
    refine pc_ofR H6_ok mixed (kp52) (rs := [.tmp 4, .tmp 5]) Try.func52 rfl (by kernel_rfl) (by kernel_rfl) (Nat.le_of_ble_eq_true rfl) ?_
    simp only [initF_cons, initF_nil, Nat.reduceAdd]
    refine t_name fun KF => ?_
    unfold H6
    repeat' (first
     | (with_reducible first | refine t_seq fun K => ?_ | refine t_block ?_ | refine t_scope ?_ | refine t_label ?_ | refine t_skip ?_ | refine t_exit ?_ | refine t_ret ?_ | refine t_k ?_ | refine t_gF ?_ | exact kp_nil | exact Kp.refl _ | exact kp_to | refine kp_cons ?_ | refine kp_arr ?_ | refine kp_app ?_ | refine t_p ?_ | refine t_br (fun hc => ?_) fun hc => ?_)
     | ((with_reducible first | refine t_kE (t_openE ?_) | refine t_kD (t_openD ?_) | refine t_kE ?_ | refine t_kD ?_ | refine t_gS ?_ | refine t_kL ?_ | refine t_kLF ?_ ?_ | refine t_region fun K => ?_ | refine t_cond fun A B => ?_ | refine t_draw (by kernel_rfl) fun K => ?_); (try (first | refine t_hideE fun KL => ?_ | refine t_hideD fun KL => ?_)); simp only [go_sem, geff, kp52, con51_f, con51_c, strs_length, rkV_def, hr])
     | ((with_reducible refine kp_skip ?_ ?_); rfl) | simp only [thenQ, blockQ, scopeQ, Nat.reduceEqDiff, reduceIte] | (with_reducible first | refine And.intro ?_ ?_ | intro vr))
    all_goals try (first | (with_reducible assumption) | (intros; (try simp only [Bool.and_eq_true, Bool.or_eq_true, Bool.or_eq_false_iff, Bool.not_eq_true', Bool.not_eq_false', decide_eq_true_eq, decide_eq_false_iff_not, beq_iff_eq, beq_eq_false_iff_ne, bne_iff_ne, bne_eq_false_iff_eq, ne_eq, inI64, List.length_append] at *) <;> omega))
    refine t_loopF (ι := { p : Nat × ByteArray // p.1 ≤ l.length ∧ resR op (l.drop p.1) p.1 p.2 = R }) (fun i => [(9, .lit (.int .i64 i.1.1)), (8, .lit (.string i.1.2))]) (fun i => []) (fun i => l.length - i.1.1) ⟨(0, ByteArray.empty), by omega, hR⟩ ?_ ?_
    · simp only [updL_nil, updL_cons, delF_top, delF_upd, Nat.reduceEqDiff, reduceIte]
      refine Le.frameS (by first | rfl | (simp only [go_sem]; try rfl)) ?_
      repeat' (first | exact leF_top _ | exact (fun _ => LeR.refl _) | (with_reducible refine leF_sl ?_ ?_) | (refine leF_upd ?_ ?_))
      all_goals (first | exact LeR.top _ | exact LeR.refl _ | (refine LeR.of_eq ?_; (try simp only [go_sem]); try rfl) | ((try simp only [go_sem]); try rfl))
    rintro ⟨⟨i, free⟩, hi, hF⟩ K0
    simp only at hi hF
    rcases Nat.lt_or_ge i l.length with hc | hc
    · rw [drop_getD ByteArray.empty hc, resR] at hF
      have g3 : decide ((i : Int) < (l.length : Int)) = true := decide_eq_true (by omega)
      generalize ht : l.getD i ByteArray.empty = t at hF
      have hne : noEl t = (!eqS t ⟨#[105, 110, 116]⟩ && !eqS t ⟨#[98, 111, 111, 108]⟩) := rfl
      have hse : selS op = (eqS op ⟨#[105, 110, 100, 101, 120]⟩ || eqS op ⟨#[117, 112, 100, 97, 116, 101]⟩) := rfl
      have hsi : sInt = ⟨#[105, 110, 116]⟩ := rfl
      have hem : (⟨#[]⟩ : ByteArray) = ByteArray.empty := rfl
      rw [hne, hse, hsi] at hF
      repeat' (first
       | (with_reducible first | refine t_seq fun K => ?_ | refine t_block ?_ | refine t_scope ?_ | refine t_label ?_ | refine t_skip ?_ | refine t_exit ?_ | refine t_ret ?_ | refine t_k ?_ | refine t_gF ?_ | exact kp_nil | exact Kp.refl _ | exact kp_to | refine kp_cons ?_ | refine kp_arr ?_ | refine kp_app ?_ | refine t_p ?_ | refine t_br (fun hc => ?_) fun hc => ?_)
       | ((with_reducible first | refine t_kE (t_openE ?_) | refine t_kD (t_openD ?_) | refine t_kE ?_ | refine t_kD ?_ | refine t_gS ?_ | refine t_kL ?_ | refine t_kLF ?_ ?_ | refine t_region fun K => ?_ | refine t_cond fun A B => ?_ | refine t_draw (by kernel_rfl) fun K => ?_); (try (first | refine t_hideE fun KL => ?_ | refine t_hideD fun KL => ?_)); simp only [go_sem, geff, kp52, g3, Int.toNat_natCast, strs_length, con51_f, ht, hem])
       | ((with_reducible refine kp_skip ?_ ?_); rfl) | simp only [thenQ, blockQ, scopeQ, Nat.reduceEqDiff, reduceIte] | (with_reducible first | refine And.intro ?_ ?_ | intro vr))
      all_goals try (first | (with_reducible assumption) | (intros; (try simp only [Bool.and_eq_true, Bool.or_eq_true, Bool.or_eq_false_iff, Bool.not_eq_true', Bool.not_eq_false', decide_eq_true_eq, decide_eq_false_iff_not, beq_iff_eq, beq_eq_false_iff_ne, bne_iff_ne, bne_eq_false_iff_eq, ne_eq, inI64, List.length_append] at *) <;> omega))
      · skip
        all_goals ((first | refine end_retE ?_ | refine end_normE ?_); simp only [fin, go_sem])
        rw [if_pos hc] at hF
        exact sb_of hF.symm
      · rw [if_neg (Bool.eq_false_iff.1 ‹(!eqS t ⟨#[105, 110, 116]⟩ && !eqS t ⟨#[98, 111, 111, 108]⟩) = false›), if_pos (by assumption), if_pos hc] at hF
        all_goals ((first | refine end_retE ?_ | refine end_normE ?_); simp only [fin, go_sem])
        exact sb_of hF.symm
      · rw [if_neg (Bool.eq_false_iff.1 ‹(!eqS t ⟨#[105, 110, 116]⟩ && !eqS t ⟨#[98, 111, 111, 108]⟩) = false›), if_pos (by assumption), if_neg (Bool.eq_false_iff.1 hc)] at hF
        refine ⟨⟨(i + 1, free), by simp only; omega, hF⟩, by first | (simp only; omega) | omega, ?_⟩
        simp only [updL_nil, updL_cons, delF_top, delF_upd, Nat.reduceEqDiff, reduceIte]
        refine Le.frameS (by first | rfl | (simp only [go_sem]; try rfl)) ?_
        repeat' (first | exact leF_top _ | exact (fun _ => LeR.refl _) | (with_reducible refine leF_sl ?_ ?_) | (refine leF_upd ?_ ?_))
        all_goals (first | exact LeR.top _ | exact LeR.refl _ | (refine LeR.of_eq ?_; (try simp only [go_sem]); try rfl) | ((try simp only [go_sem]); try rfl))
      · rw [if_neg (Bool.eq_false_iff.1 ‹(!eqS t ⟨#[105, 110, 116]⟩ && !eqS t ⟨#[98, 111, 111, 108]⟩) = false›), if_neg (Bool.eq_false_iff.1 (by assumption)), if_pos hc] at hF
        all_goals ((first | refine end_retE ?_ | refine end_normE ?_); simp only [fin, go_sem])
        exact sb_of hF.symm
      · rw [if_neg (Bool.eq_false_iff.1 ‹(!eqS t ⟨#[105, 110, 116]⟩ && !eqS t ⟨#[98, 111, 111, 108]⟩) = false›), if_neg (Bool.eq_false_iff.1 (by assumption)), if_neg (Bool.eq_false_iff.1 hc)] at hF
        refine ⟨⟨(i + 1, t), by simp only; omega, hF⟩, by first | (simp only; omega) | omega, ?_⟩
        simp only [updL_nil, updL_cons, delF_top, delF_upd, Nat.reduceEqDiff, reduceIte]
        refine Le.frameS (by first | rfl | (simp only [go_sem]; try rfl)) ?_
        repeat' (first | exact leF_top _ | exact (fun _ => LeR.refl _) | (with_reducible refine leF_sl ?_ ?_) | (refine leF_upd ?_ ?_))
        all_goals (first | exact LeR.top _ | exact LeR.refl _ | (refine LeR.of_eq ?_; (try simp only [go_sem]); try rfl) | ((try simp only [go_sem]); try rfl))
    · have g3 : decide ((i : Int) < (l.length : Int)) = false := decide_eq_false (by omega)
      rw [List.drop_eq_nil_of_le (by omega), resR] at hF
      repeat' (first
       | (with_reducible first | refine t_seq fun K => ?_ | refine t_block ?_ | refine t_scope ?_ | refine t_label ?_ | refine t_skip ?_ | refine t_exit ?_ | refine t_ret ?_ | refine t_k ?_ | refine t_gF ?_ | exact kp_nil | exact Kp.refl _ | exact kp_to | refine kp_cons ?_ | refine kp_arr ?_ | refine kp_app ?_ | refine t_p ?_ | refine t_br (fun hc => ?_) fun hc => ?_)
       | ((with_reducible first | refine t_kE (t_openE ?_) | refine t_kD (t_openD ?_) | refine t_kE ?_ | refine t_kD ?_ | refine t_gS ?_ | refine t_kL ?_ | refine t_kLF ?_ ?_ | refine t_region fun K => ?_ | refine t_cond fun A B => ?_ | refine t_draw (by kernel_rfl) fun K => ?_); (try (first | refine t_hideE fun KL => ?_ | refine t_hideD fun KL => ?_)); simp only [go_sem, geff, kp52, g3, Int.toNat_natCast, strs_length, con51_f])
       | ((with_reducible refine kp_skip ?_ ?_); rfl) | simp only [thenQ, blockQ, scopeQ, Nat.reduceEqDiff, reduceIte] | (with_reducible first | refine And.intro ?_ ?_ | intro vr))
      all_goals try (first | (with_reducible assumption) | (intros; (try simp only [Bool.and_eq_true, Bool.or_eq_true, Bool.or_eq_false_iff, Bool.not_eq_true', Bool.not_eq_false', decide_eq_true_eq, decide_eq_false_iff_not, beq_iff_eq, beq_eq_false_iff_ne, bne_iff_ne, bne_eq_false_iff_eq, ne_eq, inI64, List.length_append] at *) <;> omega))
      · skip
        all_goals ((first | refine end_retE ?_ | refine end_normE ?_); simp only [fin, go_sem])
        rw [if_pos (show eqS op n_iota = true from hc)] at hF
        exact sb_of hF.symm
      · skip
        all_goals ((first | refine end_retE ?_ | refine end_normE ?_); simp only [fin, go_sem])
        rw [if_neg (by rw [show eqS op n_iota = false from hc]; decide)] at hF
        exact sb_of hF.symm
noncomputable def con52 : PCon Try.prog where
  f := 52
  c := fun
    | [.lit (.string op), xl] => match slS xl with | some l => some (l.length ≤ 1000000, sbV (rresS op l)) | _ => none
    | _ => none
  ok := by
    intro args p r hc hp
    split at hc
    · split at hc
      · rename_i hl
        cases hc
        exact PC.weak (rresult_pc hp) ⟨LeA.refl _, slS_le hl, trivial⟩
      · cases hc
    · cases hc
  fk := fk52
theorem con52_f : con52.f = 52 := rfl
theorem con52_c {op : ByteArray} {xl : AV} : con52.c [.lit (.string op), xl] = match slS xl with | some l => some (l.length ≤ 1000000, sbV (rresS op l)) | _ => none := rfl
end Go.Proofs.Ytjlcbojpiieafaa
