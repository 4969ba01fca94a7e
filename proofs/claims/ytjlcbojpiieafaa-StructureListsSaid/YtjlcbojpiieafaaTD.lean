/- Equality of arrays. -/
import Derived.Test.YtjlcbojpiieafaaSA
import Derived.Test.YtjlcbojpiieafaaFwB
import Derived.Test.YtjlcbojpiieafaaSC

set_option linter.all false

namespace Go.Proofs.Ytjlcbojpiieafaa
open Go Go.Fw

def eqA (a b : Arr) : Bool := eqS a.e b.e && (decide (a.d = b.d) && decide (a.x = b.x))
theorem eqA_refl (a : Arr) : eqA a a = true := by unfold eqA; rw [eqS_refl, decide_eq_true rfl, decide_eq_true rfl]; rfl
noncomputable def E21 : Env := envOf (P := Try.prog) zer (fun _ => false) (fun _ => false) [con19] []
theorem E21_ok : EnvOk Try.prog E21 := envOk zer_ok
set_option maxRecDepth 20000 in
set_option maxHeartbeats 1000000 in
theorem eqa_pc {a b : Arr} (ha : okA a) : PC Try.prog 24 [arrV a, arrV b] (.lit (.bool (eqA a b))) := by
  have ha1 := ha.1
  have ha2 := ha.2
  unfold eqA
  by_cases h1 : eqS a.e b.e = true
  · by_cases h2 : a.d = b.d
    · have d2 : decide (a.d = b.d) = true := decide_eq_true h2
      rw [h1, d2]
      refine pc_of E21_ok mixed (fun _ => [0, 1, 2, 3, 4]) Try.func24 rfl (by kernel_rfl) (Nat.le_of_ble_eq_true rfl) ?_
      simp only [initF_cons, initF_nil, Nat.reduceAdd]
      refine t_name fun KF => ?_
      unfold E21
      repeat' (first
       | (with_reducible first | refine t_seq fun K => ?_ | refine t_block ?_ | refine t_scope ?_ | refine t_label ?_ | refine t_skip ?_ | refine t_exit ?_ | refine t_ret ?_ | refine t_k ?_ | refine t_gF ?_ | exact kp_nil | exact Kp.refl _ | exact kp_to | refine kp_cons ?_ | refine kp_arr ?_ | refine kp_app ?_ | refine t_p ?_ | refine t_br (fun hc => ?_) fun hc => ?_)
       | ((with_reducible first | refine t_kE ?_ | refine t_kD ?_ | refine t_gS ?_ | refine t_kL ?_ | refine t_kLF ?_ ?_ | refine t_region fun K => ?_ | refine t_cond fun A B => ?_ | refine t_draw (by kernel_rfl) fun K => ?_); simp only [go_sem, geff, con19_f, con19_c, arrV_def, slK_sl, h1, d2])
       | ((with_reducible refine kp_skip ?_ ?_); rfl) | simp only [thenQ, blockQ, scopeQ, Nat.reduceEqDiff, reduceIte] | (with_reducible first | refine And.intro ?_ ?_ | intro vr))
      all_goals try (intros; (try simp only [Bool.and_eq_true, Bool.or_eq_true, Bool.not_eq_true', decide_eq_true_eq, decide_eq_false_iff_not, beq_iff_eq, bne_iff_ne, ne_eq, inI64, List.length_append] at *) <;> omega)
      refine end_ret rfl ?_
      simp only [fin, go_sem]
      exact LeA.refl _
    · have d2 : decide (a.d = b.d) = false := decide_eq_false h2
      rw [h1, d2]
      refine pc_of E21_ok mixed (fun _ => [0, 1, 2, 3, 4]) Try.func24 rfl (by kernel_rfl) (Nat.le_of_ble_eq_true rfl) ?_
      simp only [initF_cons, initF_nil, Nat.reduceAdd]
      refine t_name fun KF => ?_
      unfold E21
      repeat' (first
       | (with_reducible first | refine t_seq fun K => ?_ | refine t_block ?_ | refine t_scope ?_ | refine t_label ?_ | refine t_skip ?_ | refine t_exit ?_ | refine t_ret ?_ | refine t_k ?_ | refine t_gF ?_ | exact kp_nil | exact Kp.refl _ | exact kp_to | refine kp_cons ?_ | refine kp_arr ?_ | refine kp_app ?_ | refine t_p ?_ | refine t_br (fun hc => ?_) fun hc => ?_)
       | ((with_reducible first | refine t_kE ?_ | refine t_kD ?_ | refine t_gS ?_ | refine t_kL ?_ | refine t_kLF ?_ ?_ | refine t_region fun K => ?_ | refine t_cond fun A B => ?_ | refine t_draw (by kernel_rfl) fun K => ?_); simp only [go_sem, geff, con19_f, con19_c, arrV_def, slK_sl, h1, d2])
       | ((with_reducible refine kp_skip ?_ ?_); rfl) | simp only [thenQ, blockQ, scopeQ, Nat.reduceEqDiff, reduceIte] | (with_reducible first | refine And.intro ?_ ?_ | intro vr))
      all_goals try (intros; (try simp only [Bool.and_eq_true, Bool.or_eq_true, Bool.not_eq_true', decide_eq_true_eq, decide_eq_false_iff_not, beq_iff_eq, bne_iff_ne, ne_eq, inI64, List.length_append] at *) <;> omega)
      refine end_ret rfl ?_
      simp only [fin, go_sem]
      exact LeA.refl _
  · have h1' : eqS a.e b.e = false := by simpa using h1
    rw [h1']
    refine pc_of E21_ok mixed (fun _ => [0, 1, 2, 3, 4]) Try.func24 rfl (by kernel_rfl) (Nat.le_of_ble_eq_true rfl) ?_
    simp only [initF_cons, initF_nil, Nat.reduceAdd]
    refine t_name fun KF => ?_
    unfold E21
    repeat' (first
     | (with_reducible first | refine t_seq fun K => ?_ | refine t_block ?_ | refine t_scope ?_ | refine t_label ?_ | refine t_skip ?_ | refine t_exit ?_ | refine t_ret ?_ | refine t_k ?_ | refine t_gF ?_ | exact kp_nil | exact Kp.refl _ | exact kp_to | refine kp_cons ?_ | refine kp_arr ?_ | refine kp_app ?_ | refine t_p ?_ | refine t_br (fun hc => ?_) fun hc => ?_)
     | ((with_reducible first | refine t_kE ?_ | refine t_kD ?_ | refine t_gS ?_ | refine t_kL ?_ | refine t_kLF ?_ ?_ | refine t_region fun K => ?_ | refine t_cond fun A B => ?_ | refine t_draw (by kernel_rfl) fun K => ?_); simp only [go_sem, geff, con19_f, con19_c, arrV_def, slK_sl, h1'])
     | ((with_reducible refine kp_skip ?_ ?_); rfl) | simp only [thenQ, blockQ, scopeQ, Nat.reduceEqDiff, reduceIte] | (with_reducible first | refine And.intro ?_ ?_ | intro vr))
    all_goals try (intros; (try simp only [Bool.and_eq_true, Bool.or_eq_true, Bool.not_eq_true', decide_eq_true_eq, decide_eq_false_iff_not, beq_iff_eq, bne_iff_ne, ne_eq, inI64, List.length_append] at *) <;> omega)
    refine end_ret rfl ?_
    simp only [fin, go_sem]
    exact LeA.refl _
noncomputable def con24 : PCon Try.prog where
  f := 24
  c := fun
    | [xa, xb] => match arrOf xa, arrOf xb with | some a, some b => some (okA a, .lit (.bool (eqA a b))) | _, _ => none
    | _ => none
  ok := by
    intro args p r hc hp
    split at hc
    · split at hc
      · rename_i ha hb
        cases hc
        exact PC.weak (eqa_pc hp) ⟨arrOf_le ha, arrOf_le hb, trivial⟩
      · cases hc
    · cases hc
  fk := fk24
theorem con24_f : con24.f = 24 := rfl
theorem con24_c {xa : AV} {xb : AV} : con24.c [xa, xb] = match arrOf xa, arrOf xb with | some a, some b => some (okA a, .lit (.bool (eqA a b))) | _, _ => none := rfl
end Go.Proofs.Ytjlcbojpiieafaa

/- An element of a result (reference). -/
namespace Go.Proofs.Ytjlcbojpiieafaa
open Go Go.Fw
set_option maxRecDepth 20000

def elemS (op : ByteArray) (ns : List Int) (num : Int) (cs : List Arr) (ix : List Int) : Int :=
  let a := cs.getD 0 nilA
  match opI op with
  | 0 => ix.getD 0 0
  | 1 => a.x.getD 0 0
  | 2 => a.x.getD (ix.getD 0 0).toNat 0
  | 3 => a.x.getD (ns.getD 0 0 + ix.getD 0 0).toNat 0
  | 4 => a.x.getD ((a.x.length : Int) - 1 - ix.getD 0 0).toNat 0
  | 5 => if ix.getD 0 0 < a.x.length then a.x.getD (ix.getD 0 0).toNat 0 else (cs.getD 1 nilA).x.getD (ix.getD 0 0 - a.x.length).toNat 0
  | 6 => a.x.getD (ix.getD 1 0 * a.d.getD 1 0 + ix.getD 0 0).toNat 0
  | 7 => a.x.getD (ix.getD 0 0 * a.d.getD 1 0 + ix.getD 0 0).toNat 0
  | 8 => a.x.getD (ix.getD 0 0 + ix.getD 1 0).toNat 0
  | 9 => a.x.getD (ix.getD 0 0 * num + ix.getD 1 0).toNat 0
  | _ => (cs.getD (ix.getD 0 0).toNat nilA).x.getD 0 0
def elemP (op : ByteArray) (ns : List Int) (num : Int) (cs : List Arr) (ix : List Int) : Prop :=
  ∃ (d : List Int) (p : Nat), Shp op ns num (cs.map Arr.d) d ∧ (∀ a ∈ cs, ofE a = 0) ∧ (sizeS d).2 = 0 ∧ (p : Int) < (sizeS d).1 ∧ ix = digF d p ∧ selS op = false
noncomputable def K2 : Env := envJ (P := Try.prog) jk2 zer (fun _ => false) (fun _ => false) [] []
theorem K2_ok : EnvOk Try.prog K2 := envJOk zer_ok
set_option maxHeartbeats 8000000 in
theorem elem_pc {op : ByteArray} {ns : List Int} {num : Int} {cs : List Arr} {ix : List Int} (h : elemP op ns num cs ix) :
    PC Try.prog 78 [.lit (.string op), .sl false 1 (ints .i64 ns), .lit (.int .i64 num), .sl false 3 (arrs cs), .sl false 1 (ints .i64 ix)] (.lit (.int .i64 (elemS op ns num cs ix))) := by
  obtain ⟨d, p, hs, hv, hd, hp, rfl, hsel⟩ := h
  obtain ⟨-, hdm, hN, hN2⟩ := sizeS_ok (d := d) (n := (sizeS d).1) (Prod.ext rfl hd)
  have pos := dims_pos (d := d) (n := (sizeS d).1) (Prod.ext rfl hd) (by omega) hp
  generalize hds : cs.map Arr.d = ds at hs
  cases hs with
  | iota k hk =>
    obtain rfl := map0 hds
    rw [prI, prI, Int.mul_one] at hN
    rw [dig1]
    have hk1 := hk.1
    have hk2 := hk.2
    unfold elemS
    simp only [opI_iota, List.getD_cons_zero, List.getD_cons_succ, getD0, getD1, Int.toNat_natCast]
    refine pc_ofR K2_ok mixed (kp78) (rs := [.tmp 10]) Try.func78 rfl (by kernel_rfl) (by kernel_rfl) (Nat.le_of_ble_eq_true rfl) ?_
    simp only [initF_cons, initF_nil, Nat.reduceAdd]
    refine t_name fun KF => ?_
    unfold K2
    repeat' (first
     | (with_reducible first | refine t_seq fun K => ?_ | refine t_block ?_ | refine t_scope ?_ | refine t_label ?_ | refine t_skip ?_ | refine t_exit ?_ | refine t_ret ?_ | refine t_k ?_ | refine t_gF ?_ | exact kp_nil | exact Kp.refl _ | exact kp_to | refine kp_cons ?_ | refine kp_arr ?_ | refine kp_app ?_ | refine t_p ?_ | refine t_br (fun hc => ?_) fun hc => ?_)
     | ((with_reducible first | refine t_kE (t_openE ?_) | refine t_kD (t_openD ?_) | refine t_kE ?_ | refine t_kD ?_ | refine t_gS ?_ | refine t_kL ?_ | refine t_kLF ?_ ?_ | refine t_region fun K => ?_ | refine t_cond fun A B => ?_ | refine t_draw (by kernel_rfl) fun K => ?_); (try (first | refine t_hideE fun KL => ?_ | refine t_hideD fun KL => ?_)); simp only [go_sem, geff, kp78, z0_0, z0_1, z0_2, z0_3, z0_4, z0_5, z0_6, z0_7, z0_8, z0_9, z0_10, z0_11, z0_12, arrs_length, arrV_def', List.getD_cons_zero, List.getD_cons_succ, getD0, getD1, List.length_cons, List.length_nil, Int.toNat_natCast])
     | ((with_reducible refine kp_skip ?_ ?_); rfl) | simp only [thenQ, blockQ, scopeQ, Nat.reduceEqDiff, reduceIte] | (with_reducible first | refine And.intro ?_ ?_ | intro vr))
    all_goals try (first | (with_reducible assumption) | (intros; (try simp only [Bool.and_eq_true, Bool.or_eq_true, Bool.or_eq_false_iff, Bool.not_eq_true', Bool.not_eq_false', decide_eq_true_eq, decide_eq_false_iff_not, beq_iff_eq, beq_eq_false_iff_ne, bne_iff_ne, bne_eq_false_iff_eq, ne_eq, inI64, List.length_append] at *) <;> omega))
    all_goals ((first | refine end_retE ?_ | refine end_normE ?_); simp only [fin, go_sem])
    all_goals exact LeA.of_eq (by first | rfl | simp)
  | fill k hk =>
    obtain ⟨a, rfl, ha⟩ := map1 hds
    have hl := val_len0 (hv a (by simp)) ha
    rw [prI, prI, Int.mul_one] at hN
    rw [dig1]
    have hk1 := hk.1
    have hk2 := hk.2
    unfold elemS
    simp only [opI_fill, List.getD_cons_zero, List.getD_cons_succ, getD0, getD1, Int.toNat_natCast]
    refine pc_ofR K2_ok mixed (kp78) (rs := [.tmp 10]) Try.func78 rfl (by kernel_rfl) (by kernel_rfl) (Nat.le_of_ble_eq_true rfl) ?_
    simp only [initF_cons, initF_nil, Nat.reduceAdd]
    refine t_name fun KF => ?_
    unfold K2
    repeat' (first
     | (with_reducible first | refine t_seq fun K => ?_ | refine t_block ?_ | refine t_scope ?_ | refine t_label ?_ | refine t_skip ?_ | refine t_exit ?_ | refine t_ret ?_ | refine t_k ?_ | refine t_gF ?_ | exact kp_nil | exact Kp.refl _ | exact kp_to | refine kp_cons ?_ | refine kp_arr ?_ | refine kp_app ?_ | refine t_p ?_ | refine t_br (fun hc => ?_) fun hc => ?_)
     | ((with_reducible first | refine t_kE (t_openE ?_) | refine t_kD (t_openD ?_) | refine t_kE ?_ | refine t_kD ?_ | refine t_gS ?_ | refine t_kL ?_ | refine t_kLF ?_ ?_ | refine t_region fun K => ?_ | refine t_cond fun A B => ?_ | refine t_draw (by kernel_rfl) fun K => ?_); (try (first | refine t_hideE fun KL => ?_ | refine t_hideD fun KL => ?_)); simp only [go_sem, geff, kp78, z1_0, z1_1, z1_2, z1_3, z1_4, z1_5, z1_6, z1_7, z1_8, z1_9, z1_10, z1_11, z1_12, arrs_length, arrV_def', List.getD_cons_zero, List.getD_cons_succ, getD0, getD1, List.length_cons, List.length_nil, Int.toNat_natCast])
     | ((with_reducible refine kp_skip ?_ ?_); rfl) | simp only [thenQ, blockQ, scopeQ, Nat.reduceEqDiff, reduceIte] | (with_reducible first | refine And.intro ?_ ?_ | intro vr))
    all_goals try (first | (with_reducible assumption) | (intros; (try simp only [Bool.and_eq_true, Bool.or_eq_true, Bool.or_eq_false_iff, Bool.not_eq_true', Bool.not_eq_false', decide_eq_true_eq, decide_eq_false_iff_not, beq_iff_eq, beq_eq_false_iff_ne, bne_iff_ne, bne_eq_false_iff_eq, ne_eq, inI64, List.length_append] at *) <;> omega))
    all_goals ((first | refine end_retE ?_ | refine end_normE ?_); simp only [fin, go_sem])
    all_goals exact LeA.of_eq (by first | rfl | simp)
  | take k n hk hn hkn =>
    obtain ⟨a, rfl, ha⟩ := map1 hds
    have hl := val_len1 (hv a (by simp)) ha
    rw [prI, prI, Int.mul_one] at hN
    rw [dig1]
    have hk1 := hk.1
    have hk2 := hk.2
    have hn1 := hn.1
    have hn2 := hn.2
    unfold elemS
    simp only [opI_take, List.getD_cons_zero, List.getD_cons_succ, getD0, getD1, Int.toNat_natCast]
    refine pc_ofR K2_ok mixed (kp78) (rs := [.tmp 10]) Try.func78 rfl (by kernel_rfl) (by kernel_rfl) (Nat.le_of_ble_eq_true rfl) ?_
    simp only [initF_cons, initF_nil, Nat.reduceAdd]
    refine t_name fun KF => ?_
    unfold K2
    repeat' (first
     | (with_reducible first | refine t_seq fun K => ?_ | refine t_block ?_ | refine t_scope ?_ | refine t_label ?_ | refine t_skip ?_ | refine t_exit ?_ | refine t_ret ?_ | refine t_k ?_ | refine t_gF ?_ | exact kp_nil | exact Kp.refl _ | exact kp_to | refine kp_cons ?_ | refine kp_arr ?_ | refine kp_app ?_ | refine t_p ?_ | refine t_br (fun hc => ?_) fun hc => ?_)
     | ((with_reducible first | refine t_kE (t_openE ?_) | refine t_kD (t_openD ?_) | refine t_kE ?_ | refine t_kD ?_ | refine t_gS ?_ | refine t_kL ?_ | refine t_kLF ?_ ?_ | refine t_region fun K => ?_ | refine t_cond fun A B => ?_ | refine t_draw (by kernel_rfl) fun K => ?_); (try (first | refine t_hideE fun KL => ?_ | refine t_hideD fun KL => ?_)); simp only [go_sem, geff, kp78, z2_0, z2_1, z2_2, z2_3, z2_4, z2_5, z2_6, z2_7, z2_8, z2_9, z2_10, z2_11, z2_12, arrs_length, arrV_def', List.getD_cons_zero, List.getD_cons_succ, getD0, getD1, List.length_cons, List.length_nil, Int.toNat_natCast])
     | ((with_reducible refine kp_skip ?_ ?_); rfl) | simp only [thenQ, blockQ, scopeQ, Nat.reduceEqDiff, reduceIte] | (with_reducible first | refine And.intro ?_ ?_ | intro vr))
    all_goals try (first | (with_reducible assumption) | (intros; (try simp only [Bool.and_eq_true, Bool.or_eq_true, Bool.or_eq_false_iff, Bool.not_eq_true', Bool.not_eq_false', decide_eq_true_eq, decide_eq_false_iff_not, beq_iff_eq, beq_eq_false_iff_ne, bne_iff_ne, bne_eq_false_iff_eq, ne_eq, inI64, List.length_append] at *) <;> omega))
    all_goals ((first | refine end_retE ?_ | refine end_normE ?_); simp only [fin, go_sem])
    all_goals exact LeA.of_eq (by first | rfl | simp)
  | drop k n hk hn hkn =>
    obtain ⟨a, rfl, ha⟩ := map1 hds
    have hl := val_len1 (hv a (by simp)) ha
    rw [prI, prI, Int.mul_one] at hN
    rw [dig1]
    have hk1 := hk.1
    have hk2 := hk.2
    have hn1 := hn.1
    have hn2 := hn.2
    unfold elemS
    simp only [opI_drop, List.getD_cons_zero, List.getD_cons_succ, getD0, getD1, Int.toNat_natCast]
    refine pc_ofR K2_ok mixed (kp78) (rs := [.tmp 10]) Try.func78 rfl (by kernel_rfl) (by kernel_rfl) (Nat.le_of_ble_eq_true rfl) ?_
    simp only [initF_cons, initF_nil, Nat.reduceAdd]
    refine t_name fun KF => ?_
    unfold K2
    repeat' (first
     | (with_reducible first | refine t_seq fun K => ?_ | refine t_block ?_ | refine t_scope ?_ | refine t_label ?_ | refine t_skip ?_ | refine t_exit ?_ | refine t_ret ?_ | refine t_k ?_ | refine t_gF ?_ | exact kp_nil | exact Kp.refl _ | exact kp_to | refine kp_cons ?_ | refine kp_arr ?_ | refine kp_app ?_ | refine t_p ?_ | refine t_br (fun hc => ?_) fun hc => ?_)
     | ((with_reducible first | refine t_kE (t_openE ?_) | refine t_kD (t_openD ?_) | refine t_kE ?_ | refine t_kD ?_ | refine t_gS ?_ | refine t_kL ?_ | refine t_kLF ?_ ?_ | refine t_region fun K => ?_ | refine t_cond fun A B => ?_ | refine t_draw (by kernel_rfl) fun K => ?_); (try (first | refine t_hideE fun KL => ?_ | refine t_hideD fun KL => ?_)); simp only [go_sem, geff, kp78, z3_0, z3_1, z3_2, z3_3, z3_4, z3_5, z3_6, z3_7, z3_8, z3_9, z3_10, z3_11, z3_12, arrs_length, arrV_def', List.getD_cons_zero, List.getD_cons_succ, getD0, getD1, List.length_cons, List.length_nil, Int.toNat_natCast])
     | ((with_reducible refine kp_skip ?_ ?_); rfl) | simp only [thenQ, blockQ, scopeQ, Nat.reduceEqDiff, reduceIte] | (with_reducible first | refine And.intro ?_ ?_ | intro vr))
    all_goals try (first | (with_reducible assumption) | (intros; (try simp only [Bool.and_eq_true, Bool.or_eq_true, Bool.or_eq_false_iff, Bool.not_eq_true', Bool.not_eq_false', decide_eq_true_eq, decide_eq_false_iff_not, beq_iff_eq, beq_eq_false_iff_ne, bne_iff_ne, bne_eq_false_iff_eq, ne_eq, inI64, List.length_append] at *) <;> omega))
    all_goals ((first | refine end_retE ?_ | refine end_normE ?_); simp only [fin, go_sem])
    all_goals exact LeA.of_eq (by first | rfl | simp)
  | reverse n hn =>
    obtain ⟨a, rfl, ha⟩ := map1 hds
    have hl := val_len1 (hv a (by simp)) ha
    rw [prI, prI, Int.mul_one] at hN
    rw [dig1]
    have hn1 := hn.1
    have hn2 := hn.2
    unfold elemS
    simp only [opI_reverse, List.getD_cons_zero, List.getD_cons_succ, getD0, getD1, Int.toNat_natCast]
    refine pc_ofR K2_ok mixed (kp78) (rs := [.tmp 10]) Try.func78 rfl (by kernel_rfl) (by kernel_rfl) (Nat.le_of_ble_eq_true rfl) ?_
    simp only [initF_cons, initF_nil, Nat.reduceAdd]
    refine t_name fun KF => ?_
    unfold K2
    repeat' (first
     | (with_reducible first | refine t_seq fun K => ?_ | refine t_block ?_ | refine t_scope ?_ | refine t_label ?_ | refine t_skip ?_ | refine t_exit ?_ | refine t_ret ?_ | refine t_k ?_ | refine t_gF ?_ | exact kp_nil | exact Kp.refl _ | exact kp_to | refine kp_cons ?_ | refine kp_arr ?_ | refine kp_app ?_ | refine t_p ?_ | refine t_br (fun hc => ?_) fun hc => ?_)
     | ((with_reducible first | refine t_kE (t_openE ?_) | refine t_kD (t_openD ?_) | refine t_kE ?_ | refine t_kD ?_ | refine t_gS ?_ | refine t_kL ?_ | refine t_kLF ?_ ?_ | refine t_region fun K => ?_ | refine t_cond fun A B => ?_ | refine t_draw (by kernel_rfl) fun K => ?_); (try (first | refine t_hideE fun KL => ?_ | refine t_hideD fun KL => ?_)); simp only [go_sem, geff, kp78, z4_0, z4_1, z4_2, z4_3, z4_4, z4_5, z4_6, z4_7, z4_8, z4_9, z4_10, z4_11, z4_12, arrs_length, arrV_def', List.getD_cons_zero, List.getD_cons_succ, getD0, getD1, List.length_cons, List.length_nil, Int.toNat_natCast])
     | ((with_reducible refine kp_skip ?_ ?_); rfl) | simp only [thenQ, blockQ, scopeQ, Nat.reduceEqDiff, reduceIte] | (with_reducible first | refine And.intro ?_ ?_ | intro vr))
    all_goals try (first | (with_reducible assumption) | (intros; (try simp only [Bool.and_eq_true, Bool.or_eq_true, Bool.or_eq_false_iff, Bool.not_eq_true', Bool.not_eq_false', decide_eq_true_eq, decide_eq_false_iff_not, beq_iff_eq, beq_eq_false_iff_ne, bne_iff_ne, bne_eq_false_iff_eq, ne_eq, inI64, List.length_append] at *) <;> omega))
    all_goals ((first | refine end_retE ?_ | refine end_normE ?_); simp only [fin, go_sem])
    all_goals exact LeA.of_eq (by first | rfl | simp)
  | append m n hm hn =>
    obtain ⟨a, b, rfl, ha, hb⟩ := map2 hds
    have hl := val_len1 (hv a (by simp)) ha
    have hl2 := val_len1 (hv b (by simp)) hb
    rw [prI, prI, Int.mul_one] at hN
    rw [dig1]
    have hn1 := hn.1
    have hn2 := hn.2
    have hm1 := hm.1
    have hm2 := hm.2
    unfold elemS
    simp only [opI_append, List.getD_cons_zero, List.getD_cons_succ, getD0, getD1, Int.toNat_natCast]
    refine pc_ofR K2_ok mixed (kp78) (rs := [.tmp 10]) Try.func78 rfl (by kernel_rfl) (by kernel_rfl) (Nat.le_of_ble_eq_true rfl) ?_
    simp only [initF_cons, initF_nil, Nat.reduceAdd]
    refine t_name fun KF => ?_
    unfold K2
    repeat' (first
     | (with_reducible first | refine t_seq fun K => ?_ | refine t_block ?_ | refine t_scope ?_ | refine t_label ?_ | refine t_skip ?_ | refine t_exit ?_ | refine t_ret ?_ | refine t_k ?_ | refine t_gF ?_ | exact kp_nil | exact Kp.refl _ | exact kp_to | refine kp_cons ?_ | refine kp_arr ?_ | refine kp_app ?_ | refine t_p ?_ | refine t_br (fun hc => ?_) fun hc => ?_)
     | ((with_reducible first | refine t_kE (t_openE ?_) | refine t_kD (t_openD ?_) | refine t_kE ?_ | refine t_kD ?_ | refine t_gS ?_ | refine t_kL ?_ | refine t_kLF ?_ ?_ | refine t_region fun K => ?_ | refine t_cond fun A B => ?_ | refine t_draw (by kernel_rfl) fun K => ?_); (try (first | refine t_hideE fun KL => ?_ | refine t_hideD fun KL => ?_)); simp only [go_sem, geff, kp78, z5_0, z5_1, z5_2, z5_3, z5_4, z5_5, z5_6, z5_7, z5_8, z5_9, z5_10, z5_11, z5_12, arrs_length, arrV_def', List.getD_cons_zero, List.getD_cons_succ, getD0, getD1, List.length_cons, List.length_nil, Int.toNat_natCast])
     | ((with_reducible refine kp_skip ?_ ?_); rfl) | simp only [thenQ, blockQ, scopeQ, Nat.reduceEqDiff, reduceIte] | (with_reducible first | refine And.intro ?_ ?_ | intro vr))
    all_goals try (first | (with_reducible assumption) | (intros; (try simp only [Bool.and_eq_true, Bool.or_eq_true, Bool.or_eq_false_iff, Bool.not_eq_true', Bool.not_eq_false', decide_eq_true_eq, decide_eq_false_iff_not, beq_iff_eq, beq_eq_false_iff_ne, bne_iff_ne, bne_eq_false_iff_eq, ne_eq, inI64, List.length_append] at *) <;> omega))
    all_goals ((first | refine end_retE ?_ | refine end_normE ?_); simp only [fin, go_sem])
    · rw [if_pos (by simpa using hc)]; exact LeA.refl _
    · rw [if_neg (by simpa using hc)]; exact LeA.refl _
  | transpose m n hm hn =>
    obtain ⟨a, rfl, ha⟩ := map1 hds
    have hl := val_len2 (hv a (by simp)) ha
    rw [prI, prI, prI, Int.mul_one] at hN
    rw [dig2]
    have hn1 := hn.1
    have hn2 := hn.2
    have hm1 := hm.1
    have hm2 := hm.2
    have hm0 := pos m (by simp)
    have hn0 := pos n (by simp)
    have a1 := Int.emod_nonneg (p : Int) (show m ≠ 0 by omega)
    have a2 := Int.emod_lt_of_pos (p : Int) (show 0 < m by omega)
    have a3 : 0 ≤ (p : Int) / m := Int.ediv_nonneg (by omega) (by omega)
    have a4 : (p : Int) / m < n := Int.ediv_lt_of_lt_mul (by omega) (by omega)
    have a5 : 0 ≤ (p : Int) % m * n := Int.mul_nonneg a1 (by omega)
    have a6 : ((p : Int) % m + 1) * n ≤ m * n := Int.mul_le_mul_of_nonneg_right (by omega) (by omega)
    rw [Int.add_mul, Int.one_mul] at a6
    have a7 := mulBd hm hn
    generalize (p : Int) % m = r at *
    generalize (p : Int) / m = t at *
    unfold elemS
    simp only [opI_transpose, List.getD_cons_zero, List.getD_cons_succ, getD0, getD1, Int.toNat_natCast]
    refine pc_ofR K2_ok mixed (kp78) (rs := [.tmp 10]) Try.func78 rfl (by kernel_rfl) (by kernel_rfl) (Nat.le_of_ble_eq_true rfl) ?_
    simp only [initF_cons, initF_nil, Nat.reduceAdd]
    refine t_name fun KF => ?_
    unfold K2
    repeat' (first
     | (with_reducible first | refine t_seq fun K => ?_ | refine t_block ?_ | refine t_scope ?_ | refine t_label ?_ | refine t_skip ?_ | refine t_exit ?_ | refine t_ret ?_ | refine t_k ?_ | refine t_gF ?_ | exact kp_nil | exact Kp.refl _ | exact kp_to | refine kp_cons ?_ | refine kp_arr ?_ | refine kp_app ?_ | refine t_p ?_ | refine t_br (fun hc => ?_) fun hc => ?_)
     | ((with_reducible first | refine t_kE (t_openE ?_) | refine t_kD (t_openD ?_) | refine t_kE ?_ | refine t_kD ?_ | refine t_gS ?_ | refine t_kL ?_ | refine t_kLF ?_ ?_ | refine t_region fun K => ?_ | refine t_cond fun A B => ?_ | refine t_draw (by kernel_rfl) fun K => ?_); (try (first | refine t_hideE fun KL => ?_ | refine t_hideD fun KL => ?_)); simp only [go_sem, geff, kp78, z6_0, z6_1, z6_2, z6_3, z6_4, z6_5, z6_6, z6_7, z6_8, z6_9, z6_10, z6_11, z6_12, arrs_length, arrV_def', List.getD_cons_zero, List.getD_cons_succ, getD0, getD1, List.length_cons, List.length_nil, Int.toNat_natCast, ha])
     | ((with_reducible refine kp_skip ?_ ?_); rfl) | simp only [thenQ, blockQ, scopeQ, Nat.reduceEqDiff, reduceIte] | (with_reducible first | refine And.intro ?_ ?_ | intro vr))
    all_goals try (first | (with_reducible assumption) | (intros; (try simp only [Bool.and_eq_true, Bool.or_eq_true, Bool.or_eq_false_iff, Bool.not_eq_true', Bool.not_eq_false', decide_eq_true_eq, decide_eq_false_iff_not, beq_iff_eq, beq_eq_false_iff_ne, bne_iff_ne, bne_eq_false_iff_eq, ne_eq, inI64, List.length_append] at *) <;> omega))
    all_goals ((first | refine end_retE ?_ | refine end_normE ?_); simp only [fin, go_sem])
    all_goals try rw [ha]
    all_goals exact LeA.of_eq (by first | rfl | simp)
  | diagonal n hn =>
    obtain ⟨a, rfl, ha⟩ := map1 hds
    have hl := val_len2 (hv a (by simp)) ha
    rw [prI, prI, Int.mul_one] at hN
    rw [dig1]
    have hn1 := hn.1
    have hn2 := hn.2
    have a5 : 0 ≤ (p : Int) * n := Int.mul_nonneg (by omega) hn.1
    have a6 : ((p : Int) + 1) * n ≤ n * n := Int.mul_le_mul_of_nonneg_right (by omega) hn.1
    rw [Int.add_mul, Int.one_mul] at a6
    have a7 := mulBd hn hn
    unfold elemS
    simp only [opI_diagonal, List.getD_cons_zero, List.getD_cons_succ, getD0, getD1, Int.toNat_natCast]
    refine pc_ofR K2_ok mixed (kp78) (rs := [.tmp 10]) Try.func78 rfl (by kernel_rfl) (by kernel_rfl) (Nat.le_of_ble_eq_true rfl) ?_
    simp only [initF_cons, initF_nil, Nat.reduceAdd]
    refine t_name fun KF => ?_
    unfold K2
    repeat' (first
     | (with_reducible first | refine t_seq fun K => ?_ | refine t_block ?_ | refine t_scope ?_ | refine t_label ?_ | refine t_skip ?_ | refine t_exit ?_ | refine t_ret ?_ | refine t_k ?_ | refine t_gF ?_ | exact kp_nil | exact Kp.refl _ | exact kp_to | refine kp_cons ?_ | refine kp_arr ?_ | refine kp_app ?_ | refine t_p ?_ | refine t_br (fun hc => ?_) fun hc => ?_)
     | ((with_reducible first | refine t_kE (t_openE ?_) | refine t_kD (t_openD ?_) | refine t_kE ?_ | refine t_kD ?_ | refine t_gS ?_ | refine t_kL ?_ | refine t_kLF ?_ ?_ | refine t_region fun K => ?_ | refine t_cond fun A B => ?_ | refine t_draw (by kernel_rfl) fun K => ?_); (try (first | refine t_hideE fun KL => ?_ | refine t_hideD fun KL => ?_)); simp only [go_sem, geff, kp78, z7_0, z7_1, z7_2, z7_3, z7_4, z7_5, z7_6, z7_7, z7_8, z7_9, z7_10, z7_11, z7_12, arrs_length, arrV_def', List.getD_cons_zero, List.getD_cons_succ, getD0, getD1, List.length_cons, List.length_nil, Int.toNat_natCast, ha])
     | ((with_reducible refine kp_skip ?_ ?_); rfl) | simp only [thenQ, blockQ, scopeQ, Nat.reduceEqDiff, reduceIte] | (with_reducible first | refine And.intro ?_ ?_ | intro vr))
    all_goals try (first | (with_reducible assumption) | (intros; (try simp only [Bool.and_eq_true, Bool.or_eq_true, Bool.or_eq_false_iff, Bool.not_eq_true', Bool.not_eq_false', decide_eq_true_eq, decide_eq_false_iff_not, beq_iff_eq, beq_eq_false_iff_ne, bne_iff_ne, bne_eq_false_iff_eq, ne_eq, inI64, List.length_append] at *) <;> omega))
    all_goals ((first | refine end_retE ?_ | refine end_normE ?_); simp only [fin, go_sem])
    all_goals try rw [ha]
    all_goals exact LeA.of_eq (by first | rfl | simp)
  | windows k n hk hn hkn =>
    obtain ⟨a, rfl, ha⟩ := map1 hds
    have hl := val_len1 (hv a (by simp)) ha
    rw [prI, prI, prI, Int.mul_one] at hN
    rw [dig2]
    have hk1 := hk.1
    have hk2 := hk.2
    have hn1 := hn.1
    have hn2 := hn.2
    have hm0 := pos k (by simp)
    have a1 := Int.emod_nonneg (p : Int) (show k ≠ 0 by omega)
    have a2 := Int.emod_lt_of_pos (p : Int) (show 0 < k by omega)
    have a3 : 0 ≤ (p : Int) / k := Int.ediv_nonneg (by omega) (by omega)
    have a4 : (p : Int) / k < n - k + 1 := Int.ediv_lt_of_lt_mul (by omega) (by omega)
    generalize (p : Int) % k = r at *
    generalize (p : Int) / k = t at *
    unfold elemS
    simp only [opI_windows, List.getD_cons_zero, List.getD_cons_succ, getD0, getD1, Int.toNat_natCast]
    refine pc_ofR K2_ok mixed (kp78) (rs := [.tmp 10]) Try.func78 rfl (by kernel_rfl) (by kernel_rfl) (Nat.le_of_ble_eq_true rfl) ?_
    simp only [initF_cons, initF_nil, Nat.reduceAdd]
    refine t_name fun KF => ?_
    unfold K2
    repeat' (first
     | (with_reducible first | refine t_seq fun K => ?_ | refine t_block ?_ | refine t_scope ?_ | refine t_label ?_ | refine t_skip ?_ | refine t_exit ?_ | refine t_ret ?_ | refine t_k ?_ | refine t_gF ?_ | exact kp_nil | exact Kp.refl _ | exact kp_to | refine kp_cons ?_ | refine kp_arr ?_ | refine kp_app ?_ | refine t_p ?_ | refine t_br (fun hc => ?_) fun hc => ?_)
     | ((with_reducible first | refine t_kE (t_openE ?_) | refine t_kD (t_openD ?_) | refine t_kE ?_ | refine t_kD ?_ | refine t_gS ?_ | refine t_kL ?_ | refine t_kLF ?_ ?_ | refine t_region fun K => ?_ | refine t_cond fun A B => ?_ | refine t_draw (by kernel_rfl) fun K => ?_); (try (first | refine t_hideE fun KL => ?_ | refine t_hideD fun KL => ?_)); simp only [go_sem, geff, kp78, z8_0, z8_1, z8_2, z8_3, z8_4, z8_5, z8_6, z8_7, z8_8, z8_9, z8_10, z8_11, z8_12, arrs_length, arrV_def', List.getD_cons_zero, List.getD_cons_succ, getD0, getD1, List.length_cons, List.length_nil, Int.toNat_natCast])
     | ((with_reducible refine kp_skip ?_ ?_); rfl) | simp only [thenQ, blockQ, scopeQ, Nat.reduceEqDiff, reduceIte] | (with_reducible first | refine And.intro ?_ ?_ | intro vr))
    all_goals try (first | (with_reducible assumption) | (intros; (try simp only [Bool.and_eq_true, Bool.or_eq_true, Bool.or_eq_false_iff, Bool.not_eq_true', Bool.not_eq_false', decide_eq_true_eq, decide_eq_false_iff_not, beq_iff_eq, beq_eq_false_iff_ne, bne_iff_ne, bne_eq_false_iff_eq, ne_eq, inI64, List.length_append] at *) <;> omega))
    all_goals ((first | refine end_retE ?_ | refine end_normE ?_); simp only [fin, go_sem])
    all_goals exact LeA.of_eq (by first | rfl | simp)
  | chunk c q hc1 hc2 hq hn =>
    obtain ⟨a, rfl, ha⟩ := map1 hds
    have hl := val_len1 (hv a (by simp)) ha
    rw [prI, prI, prI, Int.mul_one] at hN
    rw [dig2]
    have hq1 := hq.1
    have hq2 := hq.2
    have hn1 := hn.1
    have hn2 := hn.2
    have a1 := Int.emod_nonneg (p : Int) (show num ≠ 0 by omega)
    have a2 := Int.emod_lt_of_pos (p : Int) (show 0 < num by omega)
    have a3 : 0 ≤ (p : Int) / num := Int.ediv_nonneg (by omega) (by omega)
    have a4 : (p : Int) / num < q := Int.ediv_lt_of_lt_mul (by omega) (by omega)
    have a5 : 0 ≤ (p : Int) / num * num := Int.mul_nonneg a3 (by omega)
    have a6 : (p : Int) / num * num + (p : Int) % num = p := by have := Int.emod_add_mul_ediv (p : Int) num; rw [Int.mul_comm] at this; omega
    generalize (p : Int) % num = r at *
    generalize (p : Int) / num = t at *
    unfold elemS
    simp only [opI_chunk, List.getD_cons_zero, List.getD_cons_succ, getD0, getD1, Int.toNat_natCast]
    refine pc_ofR K2_ok mixed (kp78) (rs := [.tmp 10]) Try.func78 rfl (by kernel_rfl) (by kernel_rfl) (Nat.le_of_ble_eq_true rfl) ?_
    simp only [initF_cons, initF_nil, Nat.reduceAdd]
    refine t_name fun KF => ?_
    unfold K2
    repeat' (first
     | (with_reducible first | refine t_seq fun K => ?_ | refine t_block ?_ | refine t_scope ?_ | refine t_label ?_ | refine t_skip ?_ | refine t_exit ?_ | refine t_ret ?_ | refine t_k ?_ | refine t_gF ?_ | exact kp_nil | exact Kp.refl _ | exact kp_to | refine kp_cons ?_ | refine kp_arr ?_ | refine kp_app ?_ | refine t_p ?_ | refine t_br (fun hc => ?_) fun hc => ?_)
     | ((with_reducible first | refine t_kE (t_openE ?_) | refine t_kD (t_openD ?_) | refine t_kE ?_ | refine t_kD ?_ | refine t_gS ?_ | refine t_kL ?_ | refine t_kLF ?_ ?_ | refine t_region fun K => ?_ | refine t_cond fun A B => ?_ | refine t_draw (by kernel_rfl) fun K => ?_); (try (first | refine t_hideE fun KL => ?_ | refine t_hideD fun KL => ?_)); simp only [go_sem, geff, kp78, z9_0, z9_1, z9_2, z9_3, z9_4, z9_5, z9_6, z9_7, z9_8, z9_9, z9_10, z9_11, z9_12, arrs_length, arrV_def', List.getD_cons_zero, List.getD_cons_succ, getD0, getD1, List.length_cons, List.length_nil, Int.toNat_natCast])
     | ((with_reducible refine kp_skip ?_ ?_); rfl) | simp only [thenQ, blockQ, scopeQ, Nat.reduceEqDiff, reduceIte] | (with_reducible first | refine And.intro ?_ ?_ | intro vr))
    all_goals try (first | (with_reducible assumption) | (intros; (try simp only [Bool.and_eq_true, Bool.or_eq_true, Bool.or_eq_false_iff, Bool.not_eq_true', Bool.not_eq_false', decide_eq_true_eq, decide_eq_false_iff_not, beq_iff_eq, beq_eq_false_iff_ne, bne_iff_ne, bne_eq_false_iff_eq, ne_eq, inI64, List.length_append] at *) <;> omega))
    all_goals ((first | refine end_retE ?_ | refine end_normE ?_); simp only [fin, go_sem])
    all_goals exact LeA.of_eq (by first | rfl | simp)
  | index n hn => cases hsel
  | update n hn => cases hsel
  | pack m hm1 hm2 =>
    rw [prI, prI, Int.mul_one] at hN
    rw [dig1]
    have hlen : cs.length = m := by have := congrArg List.length hds; simpa using this
    have hpl : p < cs.length := by omega
    have hmem : cs.getD p nilA ∈ cs := by rw [List.getD_eq_getElem?_getD, List.getElem?_eq_getElem hpl]; exact List.getElem_mem hpl
    have hd0 : (cs.getD p nilA).d = [] := by
        have : (cs.getD p nilA).d ∈ cs.map Arr.d := List.mem_map_of_mem hmem
        rw [hds] at this
        exact List.eq_of_mem_replicate this
    have hl := val_len0 (hv _ hmem) hd0
    unfold elemS
    simp only [opI_pack, List.getD_cons_zero, List.getD_cons_succ, getD0, getD1, Int.toNat_natCast]
    refine pc_ofR K2_ok mixed (kp78) (rs := [.tmp 10]) Try.func78 rfl (by kernel_rfl) (by kernel_rfl) (Nat.le_of_ble_eq_true rfl) ?_
    simp only [initF_cons, initF_nil, Nat.reduceAdd]
    refine t_name fun KF => ?_
    unfold K2
    repeat' (first
     | (with_reducible first | refine t_seq fun K => ?_ | refine t_block ?_ | refine t_scope ?_ | refine t_label ?_ | refine t_skip ?_ | refine t_exit ?_ | refine t_ret ?_ | refine t_k ?_ | refine t_gF ?_ | exact kp_nil | exact Kp.refl _ | exact kp_to | refine kp_cons ?_ | refine kp_arr ?_ | refine kp_app ?_ | refine t_p ?_ | refine t_br (fun hc => ?_) fun hc => ?_)
     | ((with_reducible first | refine t_kE (t_openE ?_) | refine t_kD (t_openD ?_) | refine t_kE ?_ | refine t_kD ?_ | refine t_gS ?_ | refine t_kL ?_ | refine t_kLF ?_ ?_ | refine t_region fun K => ?_ | refine t_cond fun A B => ?_ | refine t_draw (by kernel_rfl) fun K => ?_); (try (first | refine t_hideE fun KL => ?_ | refine t_hideD fun KL => ?_)); simp only [go_sem, geff, kp78, z12_0, z12_1, z12_2, z12_3, z12_4, z12_5, z12_6, z12_7, z12_8, z12_9, z12_10, z12_11, z12_12, arrs_length, arrV_def', List.getD_cons_zero, List.getD_cons_succ, getD0, getD1, List.length_cons, List.length_nil, Int.toNat_natCast])
     | ((with_reducible refine kp_skip ?_ ?_); rfl) | simp only [thenQ, blockQ, scopeQ, Nat.reduceEqDiff, reduceIte] | (with_reducible first | refine And.intro ?_ ?_ | intro vr))
    all_goals try (first | (with_reducible assumption) | (intros; (try simp only [Bool.and_eq_true, Bool.or_eq_true, Bool.or_eq_false_iff, Bool.not_eq_true', Bool.not_eq_false', decide_eq_true_eq, decide_eq_false_iff_not, beq_iff_eq, beq_eq_false_iff_ne, bne_iff_ne, bne_eq_false_iff_eq, ne_eq, inI64, List.length_append] at *) <;> omega))
    all_goals ((first | refine end_retE ?_ | refine end_normE ?_); simp only [fin, go_sem])
    all_goals exact LeA.of_eq (by first | rfl | simp)
noncomputable def con78 : PCon Try.prog where
  f := 78
  c := fun
    | [.lit (.string op), xns, .lit (.int .i64 num), xcs, xix] => match slK .i64 xns, arrsOf xcs, slK .i64 xix with | some ns, some cs, some ix => some (elemP op ns num cs ix, .lit (.int .i64 (elemS op ns num cs ix))) | _, _, _ => none
    | _ => none
  ok := by
    intro args p r hc hp
    split at hc
    · split at hc
      · rename_i hns hcs hix
        cases hc
        exact PC.weak (elem_pc hp) ⟨LeA.refl _, slK_le hns, LeA.refl _, arrsOf_le hcs, slK_le hix, trivial⟩
      · cases hc
    · cases hc
  fk := fk78
theorem con78_f : con78.f = 78 := rfl
theorem con78_c {op : ByteArray} {xns : AV} {num : Int} {xcs : AV} {xix : AV} : con78.c [.lit (.string op), xns, .lit (.int .i64 num), xcs, xix] = match slK .i64 xns, arrsOf xcs, slK .i64 xix with | some ns, some cs, some ix => some (elemP op ns num cs ix, .lit (.int .i64 (elemS op ns num cs ix))) | _, _, _ => none := rfl
end Go.Proofs.Ytjlcbojpiieafaa

/- The result of index and update (reference). -/
namespace Go.Proofs.Ytjlcbojpiieafaa
open Go Go.Fw
set_option maxRecDepth 20000

theorem copyI_ec {σ : List AObj} {l : List Int} {k : AV → List AObj → Prop} (hl : l.length ≤ 1000000) (hk : k (.arr σ.length 0) (σ ++ [.arr 3 1 (ints .i64 l) 0 false])) : EC Try.prog 62 [.sl false 1 (ints .i64 l)] σ k := by
  refine EC.nilArr 3 1 ?_
  refine ec_ofR F1_ok mixed (kp62) (rs := [.tmp 2]) Try.func62 rfl (by kernel_rfl) (by kernel_rfl) (Nat.le_of_ble_eq_true rfl) ?_
  simp only [initF_cons, initF_nil, Nat.reduceAdd]
  refine t_name fun KF => ?_
  unfold F1
  repeat' (first
   | (with_reducible first | refine t_seq fun K => ?_ | refine t_block ?_ | refine t_scope ?_ | refine t_label ?_ | refine t_skip ?_ | refine t_exit ?_ | refine t_ret ?_ | refine t_k ?_ | refine t_gF ?_ | exact kp_nil | exact Kp.refl _ | exact kp_to | refine kp_cons ?_ | refine kp_arr ?_ | refine kp_app ?_ | refine t_p ?_ | refine t_br (fun hc => ?_) fun hc => ?_)
   | ((with_reducible first | refine t_kE (t_openE ?_) | refine t_kD (t_openD ?_) | refine t_kE ?_ | refine t_kD ?_ | refine t_gS ?_ | refine t_kL ?_ | refine t_kLF ?_ ?_ | refine t_region fun K => ?_ | refine t_cond fun A B => ?_ | refine t_draw (by kernel_rfl) fun K => ?_); (try (first | refine t_hideE fun KL => ?_ | refine t_hideD fun KL => ?_)); simp only [go_sem, geff, kp62])
   | ((with_reducible refine kp_skip ?_ ?_); rfl) | simp only [thenQ, blockQ, scopeQ, Nat.reduceEqDiff, reduceIte] | (with_reducible first | refine And.intro ?_ ?_ | intro vr))
  all_goals try (first | (with_reducible assumption) | (intros; (try simp only [Bool.and_eq_true, Bool.or_eq_true, Bool.or_eq_false_iff, Bool.not_eq_true', Bool.not_eq_false', decide_eq_true_eq, decide_eq_false_iff_not, beq_iff_eq, beq_eq_false_iff_ne, bne_iff_ne, bne_eq_false_iff_eq, ne_eq, inI64, List.length_append] at *) <;> omega))
  all_goals ((first | refine end_retE ?_ | refine end_normE ?_); simp only [fin, go_sem])
  exact .inl hk
noncomputable def ecn62 : ECon Try.prog where
  f := 62
  c := fun args σ k => match args with
    | [xl] => match slK .i64 xl with | some l => l.length ≤ 1000000 ∧ k (.arr σ.length 0) (σ ++ [.arr 3 1 (ints .i64 l) 0 false]) | _ => False
    | _ => False
  ok := by
    intro args σ k h
    split at h
    · split at h
      · rename_i hl
        exact EC.weak (copyI_ec h.1 h.2) (LeRL.cons (slK_leR hl) (LeRL.nil))
      · exact h.elim
    · exact h.elim
  fk := fk62
theorem ecn62_f : ecn62.f = 62 := rfl
theorem ecn62_c {xl : AV} {σ : List AObj} {k : AV → List AObj → Prop} : ecn62.c [xl] σ k = match slK .i64 xl with | some l => l.length ≤ 1000000 ∧ k (.arr σ.length 0) (σ ++ [.arr 3 1 (ints .i64 l) 0 false]) | _ => False := rfl
def chosenT (op el : ByteArray) (a : Arr) (c : List Int × Bool) : Arr × Bool × Int :=
  ((ofS ⟨el, if eqS op n_index = true then [] else a.d, c.1⟩).1, c.2, (ofS ⟨el, if eqS op n_index = true then [] else a.d, c.1⟩).2)
def chosenS (op el : ByteArray) (cs : List Arr) : Arr × Bool × Int := chosenT op el (cs.getD 0 nilA) (checkedS op cs)
noncomputable def K3 : Env := envJ (P := Try.prog) jk2 zer (fun _ => false) (fun _ => false) [con63] [ecn62]
theorem K3_ok : EnvOk Try.prog K3 := envJOk zer_ok
def chosP (op : ByteArray) (cs : List Arr) : Prop := 2 ≤ cs.length ∧ (eqS op n_index = false → 3 ≤ cs.length ∧ 0 < (cs.getD 2 nilA).x.length) ∧ 0 < (cs.getD 1 nilA).x.length ∧ (cs.getD 0 nilA).x.length ≤ 1000000 ∧ (cs.getD 0 nilA).d.length ≤ 1000000
set_option maxHeartbeats 4000000 in
theorem chosen_pc {op el : ByteArray} {cs : List Arr} (h : chosP op cs) : PC Try.prog 77 [.lit (.string op), .lit (.string el), .sl false 3 (arrs cs)] (appV (chosenS op el cs)) := by
  obtain ⟨h2, h3, hb, ha, had⟩ := h
  generalize hR : chosenS op el cs = R
  unfold chosenS checkedS at hR
  rcases Bool.eq_false_or_eq_true (outS (cs.getD 0 nilA) (cs.getD 1 nilA)) with hO | hO <;> rcases Bool.eq_false_or_eq_true (eqS op n_index) with hi | hi <;> simp only [hO, hi, Bool.and_true, Bool.and_false, Bool.true_and, Bool.false_and, if_true, if_false, reduceCtorEq, reduceIte, Bool.false_eq_true] at hR
  · have hi' : eqS op ⟨#[105, 110, 100, 101, 120]⟩ = true := hi
    have hO' : (decide ((cs.getD 1 nilA).x.getD 0 0 < 0) || decide ((cs.getD 1 nilA).x.getD 0 0 ≥ ((cs.getD 0 nilA).x.length : Int))) = true := hO
    unfold chosenT at hR
    rw [hi] at hR
    simp only [reduceIte, Bool.false_eq_true] at hR
    refine pc_ofR K3_ok mixed (kp77) (rs := [.cell 6 33, .tmp 7, .tmp 8]) Try.func77 rfl (by kernel_rfl) (by kernel_rfl) (Nat.le_of_ble_eq_true rfl) ?_
    simp only [initF_cons, initF_nil, Nat.reduceAdd]
    refine t_name fun KF => ?_
    unfold K3
    repeat' (first
     | (with_reducible first | refine t_seq fun K => ?_ | refine t_block ?_ | refine t_scope ?_ | refine t_label ?_ | refine t_skip ?_ | refine t_exit ?_ | refine t_ret ?_ | refine t_k ?_ | refine t_gF ?_ | exact kp_nil | exact Kp.refl _ | exact kp_to | refine kp_cons ?_ | refine kp_arr ?_ | refine kp_app ?_ | refine t_p ?_ | refine t_br (fun hc => ?_) fun hc => ?_)
     | ((with_reducible first | refine t_kE (t_openE ?_) | refine t_kD (t_openD ?_) | refine t_kE ?_ | refine t_kD ?_ | refine t_gS ?_ | refine t_kL ?_ | refine t_kLF ?_ ?_ | refine t_region fun K => ?_ | refine t_cond fun A B => ?_ | refine t_draw (by kernel_rfl) fun K => ?_); (try (first | refine t_hideE fun KL => ?_ | refine t_hideD fun KL => ?_)); simp only [go_sem, geff, kp77, hO', con63_f, con63_c, ecn62_f, ecn62_c, arrs_length, arrV_def', slK_sl, aeV_def, hi'])
     | ((with_reducible refine kp_skip ?_ ?_); rfl) | simp only [thenQ, blockQ, scopeQ, Nat.reduceEqDiff, reduceIte] | (with_reducible first | refine And.intro ?_ ?_ | intro vr))
    all_goals try (first | (with_reducible assumption) | (intros; (try simp only [Bool.and_eq_true, Bool.or_eq_true, Bool.or_eq_false_iff, Bool.not_eq_true', Bool.not_eq_false', decide_eq_true_eq, decide_eq_false_iff_not, beq_iff_eq, beq_eq_false_iff_ne, bne_iff_ne, bne_eq_false_iff_eq, ne_eq, inI64, List.length_append] at *) <;> omega))
    all_goals ((first | refine end_retE ?_ | refine end_normE ?_); simp only [fin, go_sem])
    exact app_of slK_sl slK_sl hR.symm
  · have hi' : eqS op ⟨#[105, 110, 100, 101, 120]⟩ = false := hi
    have hO' : (decide ((cs.getD 1 nilA).x.getD 0 0 < 0) || decide ((cs.getD 1 nilA).x.getD 0 0 ≥ ((cs.getD 0 nilA).x.length : Int))) = true := hO
    have h3a := (h3 hi).1
    have h3b := (h3 hi).2
    unfold chosenT at hR
    rw [hi] at hR
    simp only [reduceIte, Bool.false_eq_true] at hR
    refine pc_ofR K3_ok mixed (kp77) (rs := [.cell 6 33, .tmp 7, .tmp 8]) Try.func77 rfl (by kernel_rfl) (by kernel_rfl) (Nat.le_of_ble_eq_true rfl) ?_
    simp only [initF_cons, initF_nil, Nat.reduceAdd]
    refine t_name fun KF => ?_
    unfold K3
    repeat' (first
     | (with_reducible first | refine t_seq fun K => ?_ | refine t_block ?_ | refine t_scope ?_ | refine t_label ?_ | refine t_skip ?_ | refine t_exit ?_ | refine t_ret ?_ | refine t_k ?_ | refine t_gF ?_ | exact kp_nil | exact Kp.refl _ | exact kp_to | refine kp_cons ?_ | refine kp_arr ?_ | refine kp_app ?_ | refine t_p ?_ | refine t_br (fun hc => ?_) fun hc => ?_)
     | ((with_reducible first | refine t_kE (t_openE ?_) | refine t_kD (t_openD ?_) | refine t_kE ?_ | refine t_kD ?_ | refine t_gS ?_ | refine t_kL ?_ | refine t_kLF ?_ ?_ | refine t_region fun K => ?_ | refine t_cond fun A B => ?_ | refine t_draw (by kernel_rfl) fun K => ?_); (try (first | refine t_hideE fun KL => ?_ | refine t_hideD fun KL => ?_)); simp only [go_sem, geff, kp77, hO', con63_f, con63_c, ecn62_f, ecn62_c, arrs_length, arrV_def', slK_sl, aeV_def, hi'])
     | ((with_reducible refine kp_skip ?_ ?_); rfl) | simp only [thenQ, blockQ, scopeQ, Nat.reduceEqDiff, reduceIte] | (with_reducible first | refine And.intro ?_ ?_ | intro vr))
    all_goals try (first | (with_reducible assumption) | (intros; (try simp only [Bool.and_eq_true, Bool.or_eq_true, Bool.or_eq_false_iff, Bool.not_eq_true', Bool.not_eq_false', decide_eq_true_eq, decide_eq_false_iff_not, beq_iff_eq, beq_eq_false_iff_ne, bne_iff_ne, bne_eq_false_iff_eq, ne_eq, inI64, List.length_append] at *) <;> omega))
    all_goals ((first | refine end_retE ?_ | refine end_normE ?_); simp only [fin, go_sem])
    exact app_of slK_sl slK_sl hR.symm
  · have hi' : eqS op ⟨#[105, 110, 100, 101, 120]⟩ = true := hi
    have hO' : (decide ((cs.getD 1 nilA).x.getD 0 0 < 0) || decide ((cs.getD 1 nilA).x.getD 0 0 ≥ ((cs.getD 0 nilA).x.length : Int))) = false := hO
    unfold chosenT at hR
    rw [hi] at hR
    simp only [reduceIte, Bool.false_eq_true] at hR
    refine pc_ofR K3_ok mixed (kp77) (rs := [.cell 6 33, .tmp 7, .tmp 8]) Try.func77 rfl (by kernel_rfl) (by kernel_rfl) (Nat.le_of_ble_eq_true rfl) ?_
    simp only [initF_cons, initF_nil, Nat.reduceAdd]
    refine t_name fun KF => ?_
    unfold K3
    repeat' (first
     | (with_reducible first | refine t_seq fun K => ?_ | refine t_block ?_ | refine t_scope ?_ | refine t_label ?_ | refine t_skip ?_ | refine t_exit ?_ | refine t_ret ?_ | refine t_k ?_ | refine t_gF ?_ | exact kp_nil | exact Kp.refl _ | exact kp_to | refine kp_cons ?_ | refine kp_arr ?_ | refine kp_app ?_ | refine t_p ?_ | refine t_br (fun hc => ?_) fun hc => ?_)
     | ((with_reducible first | refine t_kE (t_openE ?_) | refine t_kD (t_openD ?_) | refine t_kE ?_ | refine t_kD ?_ | refine t_gS ?_ | refine t_kL ?_ | refine t_kLF ?_ ?_ | refine t_region fun K => ?_ | refine t_cond fun A B => ?_ | refine t_draw (by kernel_rfl) fun K => ?_); (try (first | refine t_hideE fun KL => ?_ | refine t_hideD fun KL => ?_)); simp only [go_sem, geff, kp77, hO', con63_f, con63_c, ecn62_f, ecn62_c, arrs_length, arrV_def', slK_sl, aeV_def, hi'])
     | ((with_reducible refine kp_skip ?_ ?_); rfl) | simp only [thenQ, blockQ, scopeQ, Nat.reduceEqDiff, reduceIte] | (with_reducible first | refine And.intro ?_ ?_ | intro vr))
    all_goals try (first | (with_reducible assumption) | (intros; (try simp only [Bool.and_eq_true, Bool.or_eq_true, Bool.or_eq_false_iff, Bool.not_eq_true', Bool.not_eq_false', decide_eq_true_eq, decide_eq_false_iff_not, beq_iff_eq, beq_eq_false_iff_ne, bne_iff_ne, bne_eq_false_iff_eq, ne_eq, inI64, List.length_append] at *) <;> omega))
    all_goals ((first | refine end_retE ?_ | refine end_normE ?_); simp only [fin, go_sem])
    exact app_of slK_sl slK_sl hR.symm
  · have hi' : eqS op ⟨#[105, 110, 100, 101, 120]⟩ = false := hi
    have hO' : (decide ((cs.getD 1 nilA).x.getD 0 0 < 0) || decide ((cs.getD 1 nilA).x.getD 0 0 ≥ ((cs.getD 0 nilA).x.length : Int))) = false := hO
    have h3a := (h3 hi).1
    have h3b := (h3 hi).2
    have hin : 0 ≤ (cs.getD 1 nilA).x.getD 0 0 ∧ (cs.getD 1 nilA).x.getD 0 0 < ((cs.getD 0 nilA).x.length : Int) := by simp only [Bool.or_eq_false_iff, decide_eq_false_iff_not] at hO'; omega
    unfold chosenT at hR
    rw [hi] at hR
    simp only [reduceIte, Bool.false_eq_true] at hR
    refine pc_ofR K3_ok mixed (kp77) (rs := [.cell 6 33, .tmp 7, .tmp 8]) Try.func77 rfl (by kernel_rfl) (by kernel_rfl) (Nat.le_of_ble_eq_true rfl) ?_
    simp only [initF_cons, initF_nil, Nat.reduceAdd]
    refine t_name fun KF => ?_
    unfold K3
    repeat' (first
     | (with_reducible first | refine t_seq fun K => ?_ | refine t_block ?_ | refine t_scope ?_ | refine t_label ?_ | refine t_skip ?_ | refine t_exit ?_ | refine t_ret ?_ | refine t_k ?_ | refine t_gF ?_ | exact kp_nil | exact Kp.refl _ | exact kp_to | refine kp_cons ?_ | refine kp_arr ?_ | refine kp_app ?_ | refine t_p ?_ | refine t_br (fun hc => ?_) fun hc => ?_)
     | ((with_reducible first | refine t_kE (t_openE ?_) | refine t_kD (t_openD ?_) | refine t_kE ?_ | refine t_kD ?_ | refine t_gS ?_ | refine t_kL ?_ | refine t_kLF ?_ ?_ | refine t_region fun K => ?_ | refine t_cond fun A B => ?_ | refine t_draw (by kernel_rfl) fun K => ?_); (try (first | refine t_hideE fun KL => ?_ | refine t_hideD fun KL => ?_)); simp only [go_sem, geff, kp77, hO', con63_f, con63_c, ecn62_f, ecn62_c, arrs_length, arrV_def', slK_sl, aeV_def, hi'])
     | ((with_reducible refine kp_skip ?_ ?_); rfl) | simp only [thenQ, blockQ, scopeQ, Nat.reduceEqDiff, reduceIte] | (with_reducible first | refine And.intro ?_ ?_ | intro vr))
    all_goals try (first | (with_reducible assumption) | (intros; (try simp only [Bool.and_eq_true, Bool.or_eq_true, Bool.or_eq_false_iff, Bool.not_eq_true', Bool.not_eq_false', decide_eq_true_eq, decide_eq_false_iff_not, beq_iff_eq, beq_eq_false_iff_ne, bne_iff_ne, bne_eq_false_iff_eq, ne_eq, inI64, List.length_append] at *) <;> omega))
    all_goals ((first | refine end_retE ?_ | refine end_normE ?_); simp only [fin, go_sem])
    exact app_of slK_sl slK_sl hR.symm
noncomputable def con77 : PCon Try.prog where
  f := 77
  c := fun
    | [.lit (.string op), .lit (.string el), xcs] => match arrsOf xcs with | some cs => some (chosP op cs, appV (chosenS op el cs)) | _ => none
    | _ => none
  ok := by
    intro args p r hc hp
    split at hc
    · split at hc
      · rename_i hcs
        cases hc
        exact PC.weak (chosen_pc hp) ⟨LeA.refl _, LeA.refl _, arrsOf_le hcs, trivial⟩
      · cases hc
    · cases hc
  fk := fk77
theorem con77_f : con77.f = 77 := rfl
theorem con77_c {op : ByteArray} {el : ByteArray} {xcs : AV} : con77.c [.lit (.string op), .lit (.string el), xcs] = match arrsOf xcs with | some cs => some (chosP op cs, appV (chosenS op el cs)) | _ => none := rfl
end Go.Proofs.Ytjlcbojpiieafaa

/- What the primitives give is valid, and the reference's elements are those. -/
namespace Go.Proofs.Ytjlcbojpiieafaa
open Go Go.Fw

def allV (e : ByteArray) (x : List Int) : Prop := ∀ n ∈ x, vld e n = true
theorem val_allV {a : Arr} (h : ofE a = 0) : allV a.e a.x := by
  have hb := (ofE_inv h).2.2
  intro n hn
  unfold bad at hb
  rw [List.any_eq_false] at hb
  simpa using hb n hn
theorem of_ok {e : ByteArray} {d x : List Int} (ht : tyOk e = true) (hs : (sizeS d).2 = 0) (hl : (x.length : Int) = (sizeS d).1) (hv : allV e x) : ofE ⟨e, d, x⟩ = 0 := by
  unfold ofE
  rw [if_neg (by unfold tyOk at ht; simp only; rw [show (eqS e sInt || eqS e sBool) = true from ht]; simp), if_neg (by simpa using hs), if_neg (by simpa using hl), if_neg]
  simp only
  intro h
  rw [List.any_eq_true] at h
  obtain ⟨n, hn, h2⟩ := h
  rw [hv n hn] at h2
  cases h2
theorem res_el {op el : ByteArray} {l : List ByteArray} (h : resultS op l = (el, true)) : (∀ t ∈ sameS op l, t = el) ∧ (sameS op l = [] → el = sInt) := by
  unfold resultS at h
  by_cases h1 : (ranksI op l.length).2 = false ∨ l.any noEl = true
  · rw [if_pos h1] at h; cases h
  rw [if_neg h1] at h
  by_cases h2 : selS op = true ∧ eqS (l.getD 1 ByteArray.empty) sInt = false
  · rw [if_pos h2] at h; cases h
  rw [if_neg h2] at h
  by_cases h3 : sameS op l = []
  · rw [if_pos h3] at h
    injection h with h _
    exact ⟨fun t ht => (by rw [h3] at ht; cases ht), fun _ => h.symm⟩
  rw [if_neg h3] at h
  by_cases h4 : ((sameS op l).any fun t => !eqS t ((sameS op l).getD 0 ByteArray.empty)) = true
  · rw [if_pos h4] at h; cases h
  rw [if_neg h4] at h
  injection h with h _
  refine ⟨fun t ht => ?_, fun e => absurd e h3⟩
  rw [← h]
  have := List.any_eq_false.1 (Bool.eq_false_iff.2 h4) t ht
  exact eqS_iff.1 (by simpa using this)
theorem gat_all {e : Ent} {k : Int} {out : List Int} {a : Arr} {el : ByteArray} (h : gatP e k out a) (hv : allV el a.x) : allV el (gatherS (e.from_.getD 0) k out a (sizeS out).1.toNat) := by
  obtain ⟨g, hg, -, -, -, -, hp⟩ := h
  intro n hn
  unfold gatherS at hn
  obtain ⟨j, hj, rfl⟩ := List.mem_map.1 hn
  rw [List.mem_range] at hj
  obtain ⟨-, -, h0, h1⟩ := hp j (by omega)
  rw [hg, Option.getD_some]
  generalize fromS g k a.d (digF out j) = m at h0 h1
  apply hv
  rw [List.getD_eq_getElem?_getD, List.getElem?_eq_getElem (by omega : m.toNat < a.x.length)]
  exact List.getElem_mem (by omega : m.toNat < a.x.length)
theorem gat_get {g : Nat} {k : Int} {out : List Int} {a : Arr} {n : Int} {p : Nat} (h : (p : Int) < n) : (gatherS g k out a n.toNat).getD p 0 = a.x.getD (fromS g k a.d (digF out p)).toNat 0 := by
  unfold gatherS
  rw [List.getD_eq_getElem?_getD, List.getElem?_map, List.getElem?_range (by omega)]
  rfl
theorem ty_of {a : Arr} (h : ofE a = 0) : tyOk a.e = true := (ofE_inv h).1
theorem vld0 {e : ByteArray} (h : tyOk e = true) : vld e 0 = true := by
  unfold tyOk at h
  rw [Bool.or_eq_true] at h
  rcases h with h | h
  · rw [eqS_iff.1 h]; rfl
  · rw [eqS_iff.1 h]; rfl
theorem rangeS_get {n p : Nat} (h : p < n) : (rangeS n).getD p 0 = p := by
  unfold rangeS
  rw [List.getD_eq_getElem?_getD, List.getElem?_map, List.getElem?_range h]; rfl
theorem app_get {x y : List Int} {p : Nat} : (x ++ y).getD p 0 = if (p : Int) < x.length then x.getD p 0 else y.getD ((p : Int) - x.length).toNat 0 := by
  simp only [List.getD_eq_getElem?_getD]
  split
  · rw [List.getElem?_append_left (by omega)]
  · rw [List.getElem?_append_right (by omega), show ((p : Int) - x.length).toNat = p - x.length by omega]
theorem ones_get : ∀ {cs : List Arr} {p : Nat}, (∀ a ∈ cs, a.x.length = 1) → (cs.flatMap (·.x)).getD p 0 = (cs.getD p nilA).x.getD 0 0
  | [], p, _ => by simp [nilA]
  | a :: t, p, h => by
    have h1 := h a (by simp)
    match hx : a.x, h1 with
    | [v], _ =>
      cases p with
      | zero => simp [hx]
      | succ p =>
        have := ones_get (cs := t) (p := p) fun b hb => h b (by simp [hb])
        simp only [List.flatMap_cons, hx, List.singleton_append, List.getD_cons_succ, this]
theorem ones_len : ∀ {cs : List Arr}, (∀ a ∈ cs, a.x.length = 1) → (cs.flatMap (·.x)).length = cs.length
  | [], _ => rfl
  | a :: t, h => by
    have := ones_len (cs := t) fun b hb => h b (by simp [hb])
    have := h a (by simp)
    simp only [List.flatMap_cons, List.length_append, List.length_cons]; omega
theorem gatherS_lenI {g : Nat} {k : Int} {out : List Int} {a : Arr} {n : Int} (h : 0 ≤ n) : ((gatherS g k out a n.toNat).length : Int) = n := by rw [gatherS_len]; omega
set_option maxHeartbeats 2000000 in
theorem data_ok {op el : ByteArray} {ns : List Int} {num : Int} {cs : List Arr} {d : List Int} {e : Ent} (hs : Shp op ns num (cs.map Arr.d) d) (hv : ∀ a ∈ cs, ofE a = 0) (hd : (sizeS d).2 = 0) (hg : givenS op ns.length num cs.length = (e, 0))
    (hr : resultS op (cs.map (·.e)) = (el, true)) : tyOk el = true ∧ ((dataS op (sizeK ns num) d cs (e.from_.getD 0)).1.length : Int) = (sizeS d).1 ∧ allV el (dataS op (sizeK ns num) d cs (e.from_.getD 0)).1 ∧
      (selS op = false → (dataS op (sizeK ns num) d cs (e.from_.getD 0)).2 = false ∧ ∀ p : Nat, (p : Int) < (sizeS d).1 → elemS op ns num cs (digF d p) = (dataS op (sizeK ns num) d cs (e.from_.getD 0)).1.getD p 0) ∧
      (selS op = true → d = if eqS op n_index = true then [] else (cs.getD 0 nilA).d) := by
  obtain ⟨h1, h2⟩ := res_el hr
  have hcl := cls_of hs hv hd hg
  have hS0 := (sizeS_bd d).1
  obtain ⟨-, hdm, hN, hN2⟩ := sizeS_ok (d := d) (n := (sizeS d).1) (Prod.ext rfl hd)
  generalize hds : cs.map Arr.d = ds at hs
  cases hs with
  | iota k hk =>
    obtain rfl := map0 hds
    obtain rfl := h2 rfl
    have e1 : dataS n_iota (sizeK [k] 0) [k] [] (e.from_.getD 0) = (rangeS k.toNat, false) := rfl
    have hk1 := hk.1
    have hk2 := hk.2
    rw [prI, prI, Int.mul_one] at hN
    rw [e1]
    refine ⟨rfl, by rw [rangeS_len]; omega, ?_, fun _ => ⟨rfl, fun p hp => ?_⟩, fun h => by cases h⟩
    · intro n hn
      unfold rangeS at hn
      obtain ⟨j, hj, rfl⟩ := List.mem_map.1 hn
      rw [List.mem_range] at hj
      unfold vld
      rw [if_pos (show eqS sInt sInt = true from rfl)]
      exact decide_eq_true (by omega)
    · rw [dig1, rangeS_get (by omega)]; rfl
  | fill k hk =>
    obtain ⟨a, rfl, ha⟩ := map1 hds
    have hva := hv a (by simp)
    obtain rfl : a.e = el := h1 a.e (by show a.e ∈ [a.e]; simp)
    cases hcl with
    | iota _ q => cases q
    | join _ q => cases q
    | pick _ _ _ q => cases q
    | move _ _ _ _ _ hgt =>
      obtain rfl := giv_f hg (show findS n_fill _ = (ents.getD 1 ent0, true) from rfl)
      have e1 : ∀ D : List Int, dataS n_fill (sizeK [k] 0) D [a] (((ents.getD 1 ent0)).from_.getD 0) = (gatherS 104 (sizeK [k] 0) D a (sizeS D).1.toNat, false) := fun _ => rfl
      rw [e1]
      refine ⟨ty_of hva, gatherS_lenI hS0, gat_all hgt (val_allV hva), fun _ => ⟨rfl, fun p hp => ?_⟩, fun h => by cases h⟩
      simp only
      rw [gat_get hp]
      rfl
  | take k n hk hn hkn =>
    obtain ⟨a, rfl, ha⟩ := map1 hds
    have hva := hv a (by simp)
    obtain rfl : a.e = el := h1 a.e (by show a.e ∈ [a.e]; simp)
    cases hcl with
    | iota _ q => cases q
    | join _ q => cases q
    | pick _ _ _ q => cases q
    | move _ _ _ _ _ hgt =>
      obtain rfl := giv_f hg (show findS n_take _ = (ents.getD 2 ent0, true) from rfl)
      have e1 : ∀ D : List Int, dataS n_take (sizeK [k] 0) D [a] (((ents.getD 2 ent0)).from_.getD 0) = (gatherS 107 (sizeK [k] 0) D a (sizeS D).1.toNat, false) := fun _ => rfl
      rw [e1]
      refine ⟨ty_of hva, gatherS_lenI hS0, gat_all hgt (val_allV hva), fun _ => ⟨rfl, fun p hp => ?_⟩, fun h => by cases h⟩
      simp only
      rw [gat_get hp]
      rw [dig1]; rfl
  | drop k n hk hn hkn =>
    obtain ⟨a, rfl, ha⟩ := map1 hds
    have hva := hv a (by simp)
    obtain rfl : a.e = el := h1 a.e (by show a.e ∈ [a.e]; simp)
    cases hcl with
    | iota _ q => cases q
    | join _ q => cases q
    | pick _ _ _ q => cases q
    | move _ _ _ _ _ hgt =>
      obtain rfl := giv_f hg (show findS n_drop _ = (ents.getD 3 ent0, true) from rfl)
      have e1 : ∀ D : List Int, dataS n_drop (sizeK [k] 0) D [a] (((ents.getD 3 ent0)).from_.getD 0) = (gatherS 109 (sizeK [k] 0) D a (sizeS D).1.toNat, false) := fun _ => rfl
      rw [e1]
      refine ⟨ty_of hva, gatherS_lenI hS0, gat_all hgt (val_allV hva), fun _ => ⟨rfl, fun p hp => ?_⟩, fun h => by cases h⟩
      simp only
      rw [gat_get hp]
      rw [dig1]; show a.x.getD (k + (p : Int)).toNat 0 = a.x.getD ((p : Int) + k).toNat 0; rw [Int.add_comm]
  | reverse n hn =>
    obtain ⟨a, rfl, ha⟩ := map1 hds
    have hva := hv a (by simp)
    obtain rfl : a.e = el := h1 a.e (by show a.e ∈ [a.e]; simp)
    cases hcl with
    | iota _ q => cases q
    | join _ q => cases q
    | pick _ _ _ q => cases q
    | move _ _ _ _ _ hgt =>
      obtain rfl := giv_f hg (show findS n_reverse _ = (ents.getD 4 ent0, true) from rfl)
      have e1 : ∀ D : List Int, dataS n_reverse (sizeK [] 0) D [a] (((ents.getD 4 ent0)).from_.getD 0) = (gatherS 111 (sizeK [] 0) D a (sizeS D).1.toNat, false) := fun _ => rfl
      rw [e1]
      refine ⟨ty_of hva, gatherS_lenI hS0, gat_all hgt (val_allV hva), fun _ => ⟨rfl, fun p hp => ?_⟩, fun h => by cases h⟩
      simp only
      rw [gat_get hp]
      rw [dig1, ha]; show a.x.getD ((a.x.length : Int) - 1 - (p : Int)).toNat 0 = a.x.getD (n - 1 - (p : Int)).toNat 0; rw [val_len1 hva ha]
  | append m n hm hn =>
    obtain ⟨a, b, rfl, ha, hb⟩ := map2 hds
    have hva := hv a (by simp)
    have hvb := hv b (by simp)
    obtain rfl : a.e = el := h1 a.e (by show a.e ∈ [a.e, b.e]; simp)
    have hbe : b.e = a.e := h1 b.e (by show b.e ∈ [a.e, b.e]; simp)
    have la := val_len1 hva ha
    have lb := val_len1 hvb hb
    have e1 : dataS n_append (sizeK [] 0) [m + n] [a, b] (e.from_.getD 0) = (a.x ++ b.x, false) := by show ([a, b].flatMap (·.x), false) = _; simp
    rw [prI, prI, Int.mul_one] at hN
    rw [e1]
    refine ⟨ty_of hva, by rw [List.length_append]; omega, ?_, fun _ => ⟨rfl, fun p hp => ?_⟩, fun h => by cases h⟩
    · intro v hm
      rcases List.mem_append.1 hm with h | h
      · exact val_allV hva v h
      · have := val_allV hvb v h
        rwa [hbe] at this
    · rw [dig1]
      simp only
      rw [app_get]
      rfl
  | transpose m n hm hn =>
    obtain ⟨a, rfl, ha⟩ := map1 hds
    have hva := hv a (by simp)
    obtain rfl : a.e = el := h1 a.e (by show a.e ∈ [a.e]; simp)
    cases hcl with
    | iota _ q => cases q
    | join _ q => cases q
    | pick _ _ _ q => cases q
    | move _ _ _ _ _ hgt =>
      obtain rfl := giv_f hg (show findS n_transpose _ = (ents.getD 6 ent0, true) from rfl)
      have e1 : ∀ D : List Int, dataS n_transpose (sizeK [] 0) D [a] (((ents.getD 6 ent0)).from_.getD 0) = (gatherS 114 (sizeK [] 0) D a (sizeS D).1.toNat, false) := fun _ => rfl
      rw [e1]
      refine ⟨ty_of hva, gatherS_lenI hS0, gat_all hgt (val_allV hva), fun _ => ⟨rfl, fun p hp => ?_⟩, fun h => by cases h⟩
      simp only
      rw [gat_get hp]
      rw [dig2]; rfl
  | diagonal n hn =>
    obtain ⟨a, rfl, ha⟩ := map1 hds
    have hva := hv a (by simp)
    obtain rfl : a.e = el := h1 a.e (by show a.e ∈ [a.e]; simp)
    cases hcl with
    | iota _ q => cases q
    | join _ q => cases q
    | pick _ _ _ q => cases q
    | move _ _ _ _ _ hgt =>
      obtain rfl := giv_f hg (show findS n_diagonal _ = (ents.getD 7 ent0, true) from rfl)
      have e1 : ∀ D : List Int, dataS n_diagonal (sizeK [] 0) D [a] (((ents.getD 7 ent0)).from_.getD 0) = (gatherS 116 (sizeK [] 0) D a (sizeS D).1.toNat, false) := fun _ => rfl
      rw [e1]
      refine ⟨ty_of hva, gatherS_lenI hS0, gat_all hgt (val_allV hva), fun _ => ⟨rfl, fun p hp => ?_⟩, fun h => by cases h⟩
      simp only
      rw [gat_get hp]
      rw [dig1]; rfl
  | windows k n hk hn hkn =>
    obtain ⟨a, rfl, ha⟩ := map1 hds
    have hva := hv a (by simp)
    obtain rfl : a.e = el := h1 a.e (by show a.e ∈ [a.e]; simp)
    cases hcl with
    | iota _ q => cases q
    | join _ q => cases q
    | pick _ _ _ q => cases q
    | move _ _ _ _ _ hgt =>
      obtain rfl := giv_f hg (show findS n_windows _ = (ents.getD 8 ent0, true) from rfl)
      have e1 : ∀ D : List Int, dataS n_windows (sizeK [k] 0) D [a] (((ents.getD 8 ent0)).from_.getD 0) = (gatherS 118 (sizeK [k] 0) D a (sizeS D).1.toNat, false) := fun _ => rfl
      rw [e1]
      refine ⟨ty_of hva, gatherS_lenI hS0, gat_all hgt (val_allV hva), fun _ => ⟨rfl, fun p hp => ?_⟩, fun h => by cases h⟩
      simp only
      rw [gat_get hp]
      rw [dig2]; rfl
  | chunk c q hc1 hc2 hq hn =>
    obtain ⟨a, rfl, ha⟩ := map1 hds
    have hva := hv a (by simp)
    obtain rfl : a.e = el := h1 a.e (by show a.e ∈ [a.e]; simp)
    cases hcl with
    | iota _ q => cases q
    | join _ q => cases q
    | pick _ _ _ q => cases q
    | move _ _ _ _ _ hgt =>
      obtain rfl := giv_f hg (show findS n_chunk _ = (ents.getD 9 ent0, true) from rfl)
      have e1 : ∀ D : List Int, dataS n_chunk (sizeK [] num) D [a] (((ents.getD 9 ent0)).from_.getD 0) = (gatherS 120 (sizeK [] num) D a (sizeS D).1.toNat, false) := fun _ => rfl
      rw [e1]
      refine ⟨ty_of hva, gatherS_lenI hS0, gat_all hgt (val_allV hva), fun _ => ⟨rfl, fun p hp => ?_⟩, fun h => by cases h⟩
      simp only
      rw [gat_get hp]
      rw [dig2]; rfl
  | index n hn =>
    obtain ⟨a, b, rfl, ha, hb⟩ := map2 hds
    have hva := hv a (by simp)
    obtain rfl : a.e = el := h1 a.e (by show a.e ∈ [a.e]; simp)
    have e1 : dataS n_index (sizeK [] 0) [] [a, b] (e.from_.getD 0) = checkedS n_index [a, b] := rfl
    rw [prI] at hN
    rw [e1]
    refine ⟨ty_of hva, ?_, ?_, fun h => (by cases h), fun _ => rfl⟩
    · unfold checkedS
      simp only
      split
      · simp; omega
      · rw [if_pos (show eqS n_index n_index = true from rfl)]; simp; omega
    · unfold checkedS
      simp only [List.getD_cons_zero, List.getD_cons_succ]
      split
      · intro v hv
        rw [List.mem_singleton] at hv; subst hv
        exact vld0 (ty_of hva)
      · rename_i hno
        rw [if_pos (show eqS n_index n_index = true from rfl)]
        intro v hv
        rw [List.mem_singleton] at hv; subst hv
        have ho : outS a b = false := by
          cases h : outS a b with
          | false => rfl
          | true => exact absurd (by rw [h]; rfl) hno
        unfold outS at ho
        rw [Bool.or_eq_false_iff, decide_eq_false_iff_not, decide_eq_false_iff_not] at ho
        have hlt : (b.x.getD 0 0).toNat < a.x.length := by omega
        apply val_allV hva
        generalize (b.x.getD 0 0).toNat = j at hlt
        rw [List.getD_eq_getElem?_getD, List.getElem?_eq_getElem hlt]
        exact List.getElem_mem hlt
  | update n hn =>
    obtain ⟨a, b, c, rfl, ha, hb, hc⟩ := map3 hds
    have hva := hv a (by simp)
    have hvc := hv c (by simp)
    obtain rfl : a.e = el := h1 a.e (by show a.e ∈ [a.e, c.e]; simp)
    have hce : c.e = a.e := h1 c.e (by show c.e ∈ [a.e, c.e]; simp)
    have la := val_len1 hva ha
    have lc := val_len0 hvc hc
    have e1 : dataS n_update (sizeK [] 0) [n] [a, b, c] (e.from_.getD 0) = checkedS n_update [a, b, c] := rfl
    rw [prI, prI, Int.mul_one] at hN
    rw [e1]
    have e2 : checkedS n_update [a, b, c] = if outS a b = true then (a.x, true) else (a.x.set (b.x.getD 0 0).toNat (c.x.getD 0 0), false) := rfl
    rw [e2]
    refine ⟨ty_of hva, ?_, ?_, fun h => (by cases h), fun _ => by rw [if_neg (by decide)]; simp [ha]⟩
    · split
      · simp only; omega
      · simp only [List.length_set]; omega
    · split
      · exact val_allV hva
      · intro v hv
        rcases List.mem_or_eq_of_mem_set hv with h | h
        · exact val_allV hva v h
        · subst h
          match hx : c.x, lc with
          | [w], _ =>
            have := val_allV hvc w (by rw [hx]; simp)
            rw [hce] at this
            simpa using this
  | pack m hm1 hm2 =>
    have hlen : cs.length = m := by have := congrArg List.length hds; simpa using this
    have hone : ∀ a ∈ cs, a.x.length = 1 := fun a ha => by
      have : a.d ∈ cs.map Arr.d := List.mem_map_of_mem ha
      rw [hds] at this
      exact val_len0 (hv a ha) (List.eq_of_mem_replicate this)
    have hel : ∀ a ∈ cs, a.e = el := fun a ha => h1 a.e (by show a.e ∈ cs.map (·.e); exact List.mem_map_of_mem ha)
    have h0 : cs.getD 0 nilA ∈ cs := by rw [List.getD_eq_getElem?_getD, List.getElem?_eq_getElem (by omega)]; exact List.getElem_mem (by omega)
    have e1 : dataS n_pack (sizeK [] 0) [(m : Int)] cs (e.from_.getD 0) = (cs.flatMap (·.x), false) := rfl
    rw [prI, prI, Int.mul_one] at hN
    rw [e1]
    refine ⟨?_, by simp only; rw [ones_len hone]; omega, ?_, fun _ => ⟨rfl, fun p hp => ?_⟩, fun h => by cases h⟩
    · rw [← hel _ h0]; exact ty_of (hv _ h0)
    · intro v hm
      obtain ⟨a, ha, hm⟩ := List.mem_flatMap.1 hm
      rw [← hel a ha]
      exact val_allV (hv a ha) v hm
    · rw [dig1]
      simp only
      rw [ones_get hone]
      rfl
end Go.Proofs.Ytjlcbojpiieafaa

/- What the reference's Apply computes: the walk. -/
namespace Go.Proofs.Ytjlcbojpiieafaa
open Go Go.Fw
set_option maxRecDepth 20000

def elL (op : ByteArray) (ns : List Int) (num : Int) (cs : List Arr) (d : List Int) (n : Nat) : List Int := (List.range n).map fun (i : Nat) => elemS op ns num cs (digF d i)
theorem elL_zero {op : ByteArray} {ns : List Int} {num : Int} {cs : List Arr} {d : List Int} : elL op ns num cs d 0 = [] := rfl
theorem elL_succ {op : ByteArray} {ns : List Int} {num : Int} {cs : List Arr} {d : List Int} {n : Nat} : elL op ns num cs d (n + 1) = elL op ns num cs d n ++ [elemS op ns num cs (digF d n)] := by simp [elL, List.range_succ]
theorem elL_len {op : ByteArray} {ns : List Int} {num : Int} {cs : List Arr} {d : List Int} (n : Nat) : (elL op ns num cs d n).length = n := by simp [elL]
theorem elL_eq {op : ByteArray} {ns : List Int} {num : Int} {cs : List Arr} {d x : List Int} {n : Int} (hl : (x.length : Int) = n) (h : ∀ p : Nat, (p : Int) < n → elemS op ns num cs (digF d p) = x.getD p 0) : elL op ns num cs d n.toNat = x := by
  show (List.range n.toNat).map (fun (i : Nat) => elemS op ns num cs (digF d i)) = x
  apply List.ext_getElem
  · rw [List.length_map, List.length_range]; omega
  · intro i h1 h2
    rw [List.length_map, List.length_range] at h1
    rw [List.getElem_map, List.getElem_range, h i (by omega), List.getD_eq_getElem?_getD, List.getElem?_eq_getElem h2]
    rfl
noncomputable def K4 : Env := envJ (P := Try.prog) jk2 zer (fun _ => false) (fun _ => false) [con30b, con36, con52, con53, con63, con71, con76, con77, con78] []
theorem K4_ok : EnvOk Try.prog K4 := envJOk zer_ok
set_option maxHeartbeats 8000000 in
theorem rapply_pc {op : ByteArray} {ns : List Int} {num : Int} {cs : List Arr} (hn : cs.length ≤ 4096) (ho : ∀ a ∈ cs, okA a) : PC Try.prog 41 [.lit (.string op), .sl false 1 (ints .i64 ns), .lit (.int .i64 num), .sl false 3 (arrs cs)] (appV (applyS op ns num cs)) := by
  generalize hR : applyS op ns num cs = R
  unfold applyS at hR
  have hG2 := right_eq (op := op) (ns := ns.length) (num := num) (n := cs.length) (by omega) (by omega)
  generalize hG : givenS op ns.length num cs.length = r at hR hG2
  obtain ⟨e, er⟩ := r
  simp only at hR hG2
  by_cases h0 : er = 0
  · subst h0
    rw [if_neg (by simp)] at hR
    have hl1 : (cs.map (·.e)).length = cs.length := List.length_map ..
    have hl2 : (cs.map (·.d)).length = cs.length := List.length_map ..
    have hr1 : rresS op (cs.map (·.e)) = resultS op (cs.map (·.e)) := result_eq (by omega)
    have hall : (∀ a ∈ cs, ofE a = 0) → (dimsI op ns num (cs.map (·.d))).2 = 0 → (resultS op (cs.map (·.e))).2 = true → Shp op ns num (cs.map (·.d)) (dimsI op ns num (cs.map (·.d))).1 ∧ (sizeS (dimsI op ns num (cs.map (·.d))).1).2 = 0 ∧ Cls op (sizeK ns num) cs (dimsI op ns num (cs.map (·.d))).1 e ∧
        tyOk (resultS op (cs.map (·.e))).1 = true ∧ ((dataS op (sizeK ns num) (dimsI op ns num (cs.map (·.d))).1 cs (e.from_.getD 0)).1.length : Int) = (sizeS (dimsI op ns num (cs.map (·.d))).1).1 ∧ allV (resultS op (cs.map (·.e))).1 (dataS op (sizeK ns num) (dimsI op ns num (cs.map (·.d))).1 cs (e.from_.getD 0)).1 ∧
        (selS op = false → (dataS op (sizeK ns num) (dimsI op ns num (cs.map (·.d))).1 cs (e.from_.getD 0)).2 = false ∧ ∀ p : Nat, (p : Int) < (sizeS (dimsI op ns num (cs.map (·.d))).1).1 → elemS op ns num cs (digF (dimsI op ns num (cs.map (·.d))).1 p) = (dataS op (sizeK ns num) (dimsI op ns num (cs.map (·.d))).1 cs (e.from_.getD 0)).1.getD p 0) ∧
        (selS op = true → (dimsI op ns num (cs.map (·.d))).1 = if eqS op n_index = true then [] else (cs.getD 0 nilA).d) := fun hv h1 h2 => by
      have c := cls_full hG hv h1
      generalize hD : dimsI op ns num (cs.map (·.d)) = D at h1 c ⊢
      generalize hq : resultS op (cs.map (·.e)) = q at h2 ⊢
      obtain ⟨d, de⟩ := D
      obtain ⟨el, okk⟩ := q
      simp only at h1 h2 c ⊢
      subst h1 h2
      obtain ⟨s1, s2, -, -⟩ := shp_of hD
      exact ⟨s1, s2, c, data_ok s1 hv s2 hG hq⟩
    generalize hr : resultS op (cs.map (·.e)) = q at hR hall hr1
    generalize hD : dimsI op ns num (cs.map (·.d)) = D at hR hall
    generalize hA : cs.all valA = AA at hR
    obtain ⟨el, okk⟩ := q
    obtain ⟨d, de⟩ := D
    simp only at hR hall
    refine pc_ofR K4_ok mixed (kp41) (rs := [.cell 8 33, .tmp 9, .tmp 10]) Try.func41 rfl (by kernel_rfl) (by kernel_rfl) (Nat.le_of_ble_eq_true rfl) ?_
    simp only [initF_cons, initF_nil, Nat.reduceAdd]
    refine t_name fun KF => ?_
    unfold K4
    repeat' (first
     | (with_reducible first | refine t_seq fun K => ?_ | refine t_block ?_ | refine t_scope ?_ | refine t_label ?_ | refine t_skip ?_ | refine t_exit ?_ | refine t_ret ?_ | refine t_k ?_ | refine t_gF ?_ | exact kp_nil | exact Kp.refl _ | exact kp_to | refine kp_cons ?_ | refine kp_arr ?_ | refine kp_app ?_ | refine t_p ?_ | refine t_br (fun hc => ?_) fun hc => ?_)
     | ((with_reducible first | refine t_kE (t_openE ?_) | refine t_kD (t_openD ?_) | refine t_kE ?_ | refine t_kD ?_ | refine t_gS ?_ | refine t_kL ?_ | refine t_kLF ?_ ?_ | refine t_region fun K => ?_ | refine t_cond fun A B => ?_ | refine t_drawE (id := 11) (fun _ => true) [(0, true), (1, true), (2, true), (3, true), (4, true), (5, true), (6, true), (8, true), (9, true), (10, true), (11, true), (12, true), (13, true), (14, true), (7, false), (15, false), (16, true), (17, true)] (by kernel_rfl) fun K => ?_ | refine t_draw (by kernel_rfl) fun K => ?_); (try (first | refine t_hideE fun KL => ?_ | refine t_hideD fun KL => ?_)); simp only [go_sem, geff, kp41, con30b_f, con36_f, con52_f, con53_f, con63_f, con71_f, con76_f, con77_f, con78_f, con76_c, arrs_length, slK_sl, hG2])
     | ((with_reducible refine kp_skip ?_ ?_); rfl) | simp only [thenQ, blockQ, scopeQ, Nat.reduceEqDiff, reduceIte] | (with_reducible first | refine And.intro ?_ ?_ | intro vr))
    all_goals try (first | (with_reducible assumption) | (intros; (try simp only [Bool.and_eq_true, Bool.or_eq_true, Bool.or_eq_false_iff, Bool.not_eq_true', Bool.not_eq_false', decide_eq_true_eq, decide_eq_false_iff_not, beq_iff_eq, beq_eq_false_iff_ne, bne_iff_ne, bne_eq_false_iff_eq, ne_eq, inI64, List.length_append] at *) <;> omega))
    refine t_loopF (ι := { i : Two // i.i ≤ cs.length ∧ (cs.drop i.i).all valA = AA }) (fun i => [(14, .lit (.int .i64 i.1.i)), (12, .arr 1 i.1.v), (13, .arr 2 i.1.u)]) (fun i => [.box 33 [.lit (.string ByteArray.empty), .sl true 1 [], .sl true 1 []], .arr 9 1 (strs (elT cs i.1.i)) i.1.v false, .arr 23 1 (ils (dmT cs i.1.i)) i.1.u false]) (fun i => cs.length - i.1.i) ⟨⟨0, 0, 0⟩, by simp, hA⟩ ?_ ?_
    · refine (le_nil 12 9 1 rfl).trans ((le_nil 13 23 1 rfl).trans ?_)
      simp only [updL_nil, updL_cons, delF_top, delF_upd, Nat.reduceEqDiff, reduceIte]
      simp only [elT, dmT, List.take_zero, List.map_nil, strs_nil', ils_nil']
      refine Le.frameS (by first | rfl | (simp only [go_sem]; try rfl)) ?_
      repeat' (first | exact leF_top _ | exact (fun _ => LeR.refl _) | (with_reducible refine leF_sl ?_ ?_) | (refine leF_upd ?_ ?_))
      all_goals (first | exact LeR.top _ | exact LeR.refl _ | (refine LeR.of_eq ?_; (try simp only [go_sem]); try rfl) | ((try simp only [go_sem]); try rfl))
    rintro ⟨⟨i, v, u⟩, hi, hF⟩ K0
    simp only at hi hF
    rcases Nat.lt_or_ge i cs.length with hc | hc
    · rw [all_drop hc] at hF
      have g3 : decide ((i : Int) < (cs.length : Int)) = true := decide_eq_true (by omega)
      have hm : cs.getD i nilA ∈ cs := by rw [List.getD_eq_getElem?_getD, List.getElem?_eq_getElem hc]; exact List.getElem_mem hc
      have o1 := (ho _ hm).1
      have o2 := (ho _ hm).2
      have hl3 := elT_len (cs := cs) (i := i) (by omega)
      have hl4 := dmT_len (cs := cs) (i := i) (by omega)
      cases hv : (ofE (cs.getD i nilA) == 0) with
      | false =>
        rw [show valA (cs.getD i nilA) = false from hv, Bool.false_and] at hF
        rw [if_pos hF.symm] at hR
        repeat' (first
         | (with_reducible first | refine t_seq fun K => ?_ | refine t_block ?_ | refine t_scope ?_ | refine t_label ?_ | refine t_skip ?_ | refine t_exit ?_ | refine t_ret ?_ | refine t_k ?_ | refine t_gF ?_ | exact kp_nil | exact Kp.refl _ | exact kp_to | refine kp_cons ?_ | refine kp_arr ?_ | refine kp_app ?_ | refine t_p ?_ | refine t_br (fun hc => ?_) fun hc => ?_)
         | ((with_reducible first | refine t_kE (t_openE ?_) | refine t_kD (t_openD ?_) | refine t_kE ?_ | refine t_kD ?_ | refine t_gS ?_ | refine t_kL ?_ | refine t_kLF ?_ ?_ | refine t_region fun K => ?_ | refine t_cond fun A B => ?_ | refine t_drawE (id := 11) (fun _ => true) [(0, true), (1, true), (2, true), (3, true), (4, true), (5, true), (6, true), (8, true), (9, true), (10, true), (11, true), (12, true), (13, true), (14, true), (7, false), (15, false), (16, true), (17, true)] (by kernel_rfl) fun K => ?_ | refine t_draw (by kernel_rfl) fun K => ?_); (try (first | refine t_hideE fun KL => ?_ | refine t_hideD fun KL => ?_)); simp only [go_sem, geff, kp41, g3, hv, Int.toNat_natCast, con30b_f, con36_f, con52_f, con53_f, con63_f, con71_f, con76_f, con77_f, con78_f, con36_c, arrs_length, arrV_def', arrOf_agg, slK_sl, strs_length, ils_length, strs_append1, ils_app])
         | ((with_reducible refine kp_skip ?_ ?_); rfl) | simp only [thenQ, blockQ, scopeQ, Nat.reduceEqDiff, reduceIte] | (with_reducible first | refine And.intro ?_ ?_ | intro vr))
        all_goals try (first | (with_reducible assumption) | (intros; (try simp only [Bool.and_eq_true, Bool.or_eq_true, Bool.or_eq_false_iff, Bool.not_eq_true', Bool.not_eq_false', decide_eq_true_eq, decide_eq_false_iff_not, beq_iff_eq, beq_eq_false_iff_ne, bne_iff_ne, bne_eq_false_iff_eq, ne_eq, inI64, List.length_append] at *) <;> omega))
        all_goals ((first | refine end_retE ?_ | refine end_normE ?_); simp only [fin, go_sem])
        exact app_of rfl rfl hR.symm
      | true =>
        rw [show valA (cs.getD i nilA) = true from hv, Bool.true_and] at hF
        repeat' (first
         | (with_reducible first | refine t_seq fun K => ?_ | refine t_block ?_ | refine t_scope ?_ | refine t_label ?_ | refine t_skip ?_ | refine t_exit ?_ | refine t_ret ?_ | refine t_k ?_ | refine t_gF ?_ | exact kp_nil | exact Kp.refl _ | exact kp_to | refine kp_cons ?_ | refine kp_arr ?_ | refine kp_app ?_ | refine t_p ?_ | refine t_br (fun hc => ?_) fun hc => ?_)
         | ((with_reducible first | refine t_kE (t_openE ?_) | refine t_kD (t_openD ?_) | refine t_kE ?_ | refine t_kD ?_ | refine t_gS ?_ | refine t_kL ?_ | refine t_kLF ?_ ?_ | refine t_region fun K => ?_ | refine t_cond fun A B => ?_ | refine t_drawE (id := 11) (fun _ => true) [(0, true), (1, true), (2, true), (3, true), (4, true), (5, true), (6, true), (8, true), (9, true), (10, true), (11, true), (12, true), (13, true), (14, true), (7, false), (15, false), (16, true), (17, true)] (by kernel_rfl) fun K => ?_ | refine t_draw (by kernel_rfl) fun K => ?_); (try (first | refine t_hideE fun KL => ?_ | refine t_hideD fun KL => ?_)); simp only [go_sem, geff, kp41, g3, hv, Int.toNat_natCast, con30b_f, con36_f, con52_f, con53_f, con63_f, con71_f, con76_f, con77_f, con78_f, con36_c, arrs_length, arrV_def', arrOf_agg, slK_sl, strs_length, ils_length, strs_append1, ils_app])
         | ((with_reducible refine kp_skip ?_ ?_); rfl) | simp only [thenQ, blockQ, scopeQ, Nat.reduceEqDiff, reduceIte] | (with_reducible first | refine And.intro ?_ ?_ | intro vr))
        all_goals try (first | (with_reducible assumption) | (intros; (try simp only [Bool.and_eq_true, Bool.or_eq_true, Bool.or_eq_false_iff, Bool.not_eq_true', Bool.not_eq_false', decide_eq_true_eq, decide_eq_false_iff_not, beq_iff_eq, beq_eq_false_iff_ne, bne_iff_ne, bne_eq_false_iff_eq, ne_eq, inI64, List.length_append] at *) <;> omega))
        simp only [← elT_succ hc, ← dmT_succ hc]
        refine ⟨⟨⟨i + 1, v + 1, u + 1⟩, by simp only; omega, hF⟩, by first | (simp only; omega) | omega, ?_⟩
        simp only [updL_nil, updL_cons, delF_top, delF_upd, Nat.reduceEqDiff, reduceIte]
        refine Le.frameS (by first | rfl | (simp only [go_sem]; try rfl)) ?_
        repeat' (first | exact leF_top _ | exact (fun _ => LeR.refl _) | (with_reducible refine leF_sl ?_ ?_) | (refine leF_upd ?_ ?_))
        all_goals (first | exact LeR.top _ | exact LeR.refl _ | (refine LeR.of_eq ?_; (try simp only [go_sem]); try rfl) | ((try simp only [go_sem]); try rfl))
    · have hie : i = cs.length := by omega
      rw [hie, List.drop_eq_nil_of_le (by omega), List.all_nil] at hF
      rw [if_neg (by rw [← hF]; simp)] at hR
      have g3 : decide ((cs.length : Int) < (cs.length : Int)) = false := decide_eq_false (by omega)
      unfold applyT at hR
      have hv : ∀ a ∈ cs, ofE a = 0 := fun a ha => by
        rw [← hF, List.all_eq_true] at hA
        exact beq_iff_eq.1 (hA a ha)
      have hall := hall hv
      cases okk with
      | false =>
        rw [if_pos rfl] at hR
        repeat' (first
         | (with_reducible first | refine t_seq fun K => ?_ | refine t_block ?_ | refine t_scope ?_ | refine t_label ?_ | refine t_skip ?_ | refine t_exit ?_ | refine t_ret ?_ | refine t_k ?_ | refine t_gF ?_ | exact kp_nil | exact Kp.refl _ | exact kp_to | refine kp_cons ?_ | refine kp_arr ?_ | refine kp_app ?_ | refine t_p ?_ | refine t_br (fun hc => ?_) fun hc => ?_)
         | ((with_reducible first | refine t_kE (t_openE ?_) | refine t_kD (t_openD ?_) | refine t_kE ?_ | refine t_kD ?_ | refine t_gS ?_ | refine t_kL ?_ | refine t_kLF ?_ ?_ | refine t_region fun K => ?_ | refine t_cond fun A B => ?_ | refine t_drawE (id := 11) (fun _ => true) [(0, true), (1, true), (2, true), (3, true), (4, true), (5, true), (6, true), (8, true), (9, true), (10, true), (11, true), (12, true), (13, true), (14, true), (7, false), (15, false), (16, true), (17, true)] (by kernel_rfl) fun K => ?_ | refine t_draw (by kernel_rfl) fun K => ?_); (try (first | refine t_hideE fun KL => ?_ | refine t_hideD fun KL => ?_)); simp only [go_sem, geff, kp41, hie, g3, hr1, Int.toNat_natCast, con30b_f, con36_f, con52_f, con53_f, con63_f, con71_f, con76_f, con77_f, con78_f, con52_c, arrs_length, slS_sl, elT_all, dmT_all, sbV_def])
         | ((with_reducible refine kp_skip ?_ ?_); rfl) | simp only [thenQ, blockQ, scopeQ, Nat.reduceEqDiff, reduceIte] | (with_reducible first | refine And.intro ?_ ?_ | intro vr))
        all_goals try (first | (with_reducible assumption) | (intros; (try simp only [Bool.and_eq_true, Bool.or_eq_true, Bool.or_eq_false_iff, Bool.not_eq_true', Bool.not_eq_false', decide_eq_true_eq, decide_eq_false_iff_not, beq_iff_eq, beq_eq_false_iff_ne, bne_iff_ne, bne_eq_false_iff_eq, ne_eq, inI64, List.length_append] at *) <;> omega))
        all_goals ((first | refine end_retE ?_ | refine end_normE ?_); simp only [fin, go_sem])
        exact app_of rfl rfl hR.symm
      | true =>
        rw [if_neg (by simp)] at hR
        by_cases hde : de = 0
        · rw [if_neg (by simpa using hde)] at hR
          obtain ⟨hS, hd, hcl, ht, hlen, hav, hsf, hst⟩ := hall hde rfl
          have hde' : (de != 0) = false := by rw [hde]; rfl
          have hof := of_ok ht hd hlen hav
          have hcx : selS op = true → chosP op cs := fun h => by
            cases hcl with
            | iota n q1 _ _ => rw [eqS_iff.1 q1] at h; cases h
            | join q1 q2 _ =>
              rw [Bool.or_eq_true] at q2
              rcases q2 with q2 | q2 <;> (rw [eqS_iff.1 q2] at h; cases h)
            | pick q1 q2 q3 q4 hc2 hc3 hc1 hc0 =>
              refine ⟨hc2, hc3, hc1, hc0, ?_⟩
              have : cs.getD 0 nilA ∈ cs := by rw [List.getD_eq_getElem?_getD, List.getElem?_eq_getElem (by omega)]; exact List.getElem_mem (by omega)
              exact (ho _ this).1
            | move q1 q2 q3 q4 _ _ => rw [q4] at h; cases h
          rcases Bool.eq_false_or_eq_true (selS op) with hs | hs
          · have hcp := hcx hs
            have hch : chosenS op el cs = R := by
              have e1 : dataS op (sizeK ns num) d cs (e.from_.getD 0) = checkedS op cs := by
                unfold dataS
                have q : eqS op n_iota = false ∧ eqS op n_append = false ∧ eqS op n_pack = false := by
                  unfold selS at hs
                  rw [Bool.or_eq_true] at hs
                  rcases hs with h | h <;> (rw [eqS_iff.1 h]; exact ⟨rfl, rfl, rfl⟩)
                rw [q.1, q.2.1, q.2.2, if_neg (by simp), if_neg (by simp), if_pos hs]
              rw [e1] at hR hof
              unfold chosenS chosenT
              rw [← hst hs, ofS_ok hof, ← hR]
            rcases Bool.eq_false_or_eq_true (eqS op n_index) with qa | qa
            · have qa' : eqS op ⟨#[105, 110, 100, 101, 120]⟩ = true := qa
              repeat' (first
               | (with_reducible first | refine t_seq fun K => ?_ | refine t_block ?_ | refine t_scope ?_ | refine t_label ?_ | refine t_skip ?_ | refine t_exit ?_ | refine t_ret ?_ | refine t_k ?_ | refine t_gF ?_ | exact kp_nil | exact Kp.refl _ | exact kp_to | refine kp_cons ?_ | refine kp_arr ?_ | refine kp_app ?_ | refine t_p ?_ | refine t_br (fun hc => ?_) fun hc => ?_)
               | ((with_reducible first | refine t_kE (t_openE ?_) | refine t_kD (t_openD ?_) | refine t_kE ?_ | refine t_kD ?_ | refine t_gS ?_ | refine t_kL ?_ | refine t_kLF ?_ ?_ | refine t_region fun K => ?_ | refine t_cond fun A B => ?_ | refine t_drawE (id := 11) (fun _ => true) [(0, true), (1, true), (2, true), (3, true), (4, true), (5, true), (6, true), (8, true), (9, true), (10, true), (11, true), (12, true), (13, true), (14, true), (7, false), (15, false), (16, true), (17, true)] (by kernel_rfl) fun K => ?_ | refine t_draw (by kernel_rfl) fun K => ?_); (try (first | refine t_hideE fun KL => ?_ | refine t_hideD fun KL => ?_)); simp only [go_sem, geff, kp41, qa', hch, con77_c, appV_def, arrsOf_sl, arrV_def', hie, g3, hr1, hD, hde', Int.toNat_natCast, con30b_f, con36_f, con52_f, con53_f, con63_f, con71_f, con76_f, con77_f, con78_f, con52_c, con53_c, arrs_length, slS_sl, slK_sl, ilsOf_sl, elT_all, dmT_all, sbV_def, dV_def])
               | ((with_reducible refine kp_skip ?_ ?_); rfl) | simp only [thenQ, blockQ, scopeQ, Nat.reduceEqDiff, reduceIte] | (with_reducible first | refine And.intro ?_ ?_ | intro vr))
              all_goals try exact hcp
              all_goals try (first | (with_reducible assumption) | (intros; (try simp only [Bool.and_eq_true, Bool.or_eq_true, Bool.or_eq_false_iff, Bool.not_eq_true', Bool.not_eq_false', decide_eq_true_eq, decide_eq_false_iff_not, beq_iff_eq, beq_eq_false_iff_ne, bne_iff_ne, bne_eq_false_iff_eq, ne_eq, inI64, List.length_append] at *) <;> omega))
              all_goals ((first | refine end_retE ?_ | refine end_normE ?_); simp only [fin, go_sem])
              exact LeA.refl _
            · have qa' : eqS op ⟨#[105, 110, 100, 101, 120]⟩ = false := qa
              have qp' : eqS op ⟨#[117, 112, 100, 97, 116, 101]⟩ = true := by unfold selS at hs; rw [qa, Bool.false_or] at hs; exact hs
              repeat' (first
               | (with_reducible first | refine t_seq fun K => ?_ | refine t_block ?_ | refine t_scope ?_ | refine t_label ?_ | refine t_skip ?_ | refine t_exit ?_ | refine t_ret ?_ | refine t_k ?_ | refine t_gF ?_ | exact kp_nil | exact Kp.refl _ | exact kp_to | refine kp_cons ?_ | refine kp_arr ?_ | refine kp_app ?_ | refine t_p ?_ | refine t_br (fun hc => ?_) fun hc => ?_)
               | ((with_reducible first | refine t_kE (t_openE ?_) | refine t_kD (t_openD ?_) | refine t_kE ?_ | refine t_kD ?_ | refine t_gS ?_ | refine t_kL ?_ | refine t_kLF ?_ ?_ | refine t_region fun K => ?_ | refine t_cond fun A B => ?_ | refine t_drawE (id := 11) (fun _ => true) [(0, true), (1, true), (2, true), (3, true), (4, true), (5, true), (6, true), (8, true), (9, true), (10, true), (11, true), (12, true), (13, true), (14, true), (7, false), (15, false), (16, true), (17, true)] (by kernel_rfl) fun K => ?_ | refine t_draw (by kernel_rfl) fun K => ?_); (try (first | refine t_hideE fun KL => ?_ | refine t_hideD fun KL => ?_)); simp only [go_sem, geff, kp41, qa', qp', hch, con77_c, appV_def, arrsOf_sl, arrV_def', hie, g3, hr1, hD, hde', Int.toNat_natCast, con30b_f, con36_f, con52_f, con53_f, con63_f, con71_f, con76_f, con77_f, con78_f, con52_c, con53_c, arrs_length, slS_sl, slK_sl, ilsOf_sl, elT_all, dmT_all, sbV_def, dV_def])
               | ((with_reducible refine kp_skip ?_ ?_); rfl) | simp only [thenQ, blockQ, scopeQ, Nat.reduceEqDiff, reduceIte] | (with_reducible first | refine And.intro ?_ ?_ | intro vr))
              all_goals try exact hcp
              all_goals try (first | (with_reducible assumption) | (intros; (try simp only [Bool.and_eq_true, Bool.or_eq_true, Bool.or_eq_false_iff, Bool.not_eq_true', Bool.not_eq_false', decide_eq_true_eq, decide_eq_false_iff_not, beq_iff_eq, beq_eq_false_iff_ne, bne_iff_ne, bne_eq_false_iff_eq, ne_eq, inI64, List.length_append] at *) <;> omega))
              all_goals ((first | refine end_retE ?_ | refine end_normE ?_); simp only [fin, go_sem])
              exact LeA.refl _
          · have q5' : eqS op ⟨#[105, 110, 100, 101, 120]⟩ = false := by unfold selS at hs; exact (Bool.or_eq_false_iff.1 hs).1
            have q6' : eqS op ⟨#[117, 112, 100, 97, 116, 101]⟩ = false := by unfold selS at hs; exact (Bool.or_eq_false_iff.1 hs).2
            obtain ⟨hs2, hel⟩ := hsf hs
            have hS0 := (sizeS_bd d).1
            have hS1 := (sizeS_bd d).2
            have hx := elL_eq hlen hel
            have hdl := (sizeS_ok (d := d) (n := (sizeS d).1) (Prod.ext rfl hd)).1
            rw [hs2] at hR
            generalize hN : sizeS d = N at *
            repeat' (first
             | (with_reducible first | refine t_seq fun K => ?_ | refine t_block ?_ | refine t_scope ?_ | refine t_label ?_ | refine t_skip ?_ | refine t_exit ?_ | refine t_ret ?_ | refine t_k ?_ | refine t_gF ?_ | exact kp_nil | exact Kp.refl _ | exact kp_to | refine kp_cons ?_ | refine kp_arr ?_ | refine kp_app ?_ | refine t_p ?_ | refine t_br (fun hc => ?_) fun hc => ?_)
             | ((with_reducible first | refine t_kE (t_openE ?_) | refine t_kD (t_openD ?_) | refine t_kE ?_ | refine t_kD ?_ | refine t_gS ?_ | refine t_kL ?_ | refine t_kLF ?_ ?_ | refine t_region fun K => ?_ | refine t_cond fun A B => ?_ | refine t_drawE (id := 11) (fun _ => true) [(0, true), (1, true), (2, true), (3, true), (4, true), (5, true), (6, true), (8, true), (9, true), (10, true), (11, true), (12, true), (13, true), (14, true), (7, false), (15, false), (16, true), (17, true)] (by kernel_rfl) fun K => ?_ | refine t_draw (by kernel_rfl) fun K => ?_); (try (first | refine t_hideE fun KL => ?_ | refine t_hideD fun KL => ?_)); simp only [go_sem, geff, kp41, q5', q6', hN, hd, con30b_c, szV_def, hie, g3, hr1, hD, hde', Int.toNat_natCast, con30b_f, con36_f, con52_f, con53_f, con63_f, con71_f, con76_f, con77_f, con78_f, con52_c, con53_c, arrs_length, slS_sl, slK_sl, ilsOf_sl, elT_all, dmT_all, sbV_def, dV_def])
             | ((with_reducible refine kp_skip ?_ ?_); rfl) | simp only [thenQ, blockQ, scopeQ, Nat.reduceEqDiff, reduceIte] | (with_reducible first | refine And.intro ?_ ?_ | intro vr))
            all_goals try (first | (with_reducible assumption) | (intros; (try simp only [Bool.and_eq_true, Bool.or_eq_true, Bool.or_eq_false_iff, Bool.not_eq_true', Bool.not_eq_false', decide_eq_true_eq, decide_eq_false_iff_not, beq_iff_eq, beq_eq_false_iff_ne, bne_iff_ne, bne_eq_false_iff_eq, ne_eq, inI64, List.length_append] at *) <;> omega))
            refine t_loopF (ι := { i : Gat // (i.i : Int) ≤ N.1 }) (fun i => [(21, .lit (.int .i64 i.1.i)), (20, .arr 3 i.1.v)]) (fun i => [.box 33 [.lit (.string ByteArray.empty), .sl true 1 [], .sl true 1 []], .arr 9 1 (strs (cs.map (·.e))) v false, .arr 23 1 (ils (cs.map (·.d))) u true, .arr 3 1 (ints .i64 (elL op ns num cs d i.1.i)) i.1.v false]) (fun i => N.1.toNat - i.1.i) ⟨⟨0, 0⟩, by simpa using hS0⟩ ?_ ?_
            · refine (le_nil 20 3 1 rfl).trans ?_
              simp only [updL_nil, updL_cons, delF_top, delF_upd, Nat.reduceEqDiff, reduceIte]
              simp only [elL_zero, ints_nil]
              refine Le.frameS (by first | rfl | (simp only [go_sem]; try rfl)) ?_
              repeat' (first | exact leF_top _ | exact (fun _ => LeR.refl _) | (with_reducible refine leF_sl ?_ ?_) | (refine leF_upd ?_ ?_))
              all_goals (first | exact LeR.top _ | exact LeR.refl _ | (refine LeR.of_eq ?_; (try simp only [go_sem]); try rfl) | ((try simp only [go_sem]); try rfl))
            rintro ⟨⟨j, w⟩, hj⟩ K1
            simp only at hj
            by_cases hc2 : (j : Int) < N.1
            · have g4 : decide ((j : Int) < N.1) = true := decide_eq_true hc2
              have hb := elL_len (op := op) (ns := ns) (num := num) (cs := cs) (d := d) j
              have hN3 : sizeS d = (N.1, 0) := by rw [hN, ← hd]
              have hix : idxS d j = (digF d j, 0) := (idx_ok hN3 (by omega) hc2).1
              have hep : elemP op ns num cs (digF d j) := ⟨d, j, hS, hv, by rw [hN]; exact hd, by rw [hN]; exact hc2, rfl, hs⟩
              repeat' (first
               | (with_reducible first | refine t_seq fun K => ?_ | refine t_block ?_ | refine t_scope ?_ | refine t_label ?_ | refine t_skip ?_ | refine t_exit ?_ | refine t_ret ?_ | refine t_k ?_ | refine t_gF ?_ | exact kp_nil | exact Kp.refl _ | exact kp_to | refine kp_cons ?_ | refine kp_arr ?_ | refine kp_app ?_ | refine t_p ?_ | refine t_br (fun hc => ?_) fun hc => ?_)
               | ((with_reducible first | refine t_kE (t_openE ?_) | refine t_kD (t_openD ?_) | refine t_kE ?_ | refine t_kD ?_ | refine t_gS ?_ | refine t_kL ?_ | refine t_kLF ?_ ?_ | refine t_region fun K => ?_ | refine t_cond fun A B => ?_ | refine t_drawE (id := 11) (fun _ => true) [(0, true), (1, true), (2, true), (3, true), (4, true), (5, true), (6, true), (8, true), (9, true), (10, true), (11, true), (12, true), (13, true), (14, true), (7, false), (15, false), (16, true), (17, true)] (by kernel_rfl) fun K => ?_ | refine t_draw (by kernel_rfl) fun K => ?_); (try (first | refine t_hideE fun KL => ?_ | refine t_hideD fun KL => ?_)); simp only [go_sem, geff, kp41, g4, hix, ixV_def, con71_c, con78_c, arrsOf_sl, slK_sl, Int.toNat_natCast, con30b_f, con36_f, con52_f, con53_f, con63_f, con71_f, con76_f, con77_f, con78_f])
               | ((with_reducible refine kp_skip ?_ ?_); rfl) | simp only [thenQ, blockQ, scopeQ, Nat.reduceEqDiff, reduceIte] | (with_reducible first | refine And.intro ?_ ?_ | intro vr))
              all_goals try exact hep
              all_goals try (first | (with_reducible assumption) | (intros; (try simp only [Bool.and_eq_true, Bool.or_eq_true, Bool.or_eq_false_iff, Bool.not_eq_true', Bool.not_eq_false', decide_eq_true_eq, decide_eq_false_iff_not, beq_iff_eq, beq_eq_false_iff_ne, bne_iff_ne, bne_eq_false_iff_eq, ne_eq, inI64, List.length_append] at *) <;> omega))
              simp only [← elL_succ]
              refine ⟨⟨⟨j + 1, w + 1⟩, by simp only; omega⟩, by first | (simp only; omega) | omega, ?_⟩
              simp only [updL_nil, updL_cons, delF_top, delF_upd, Nat.reduceEqDiff, reduceIte]
              refine Le.frameS (by first | rfl | (simp only [go_sem]; try rfl)) ?_
              repeat' (first | exact leF_top _ | exact (fun _ => LeR.refl _) | (with_reducible refine leF_sl ?_ ?_) | (refine leF_upd ?_ ?_))
              all_goals (first | exact LeR.top _ | exact LeR.refl _ | (refine LeR.of_eq ?_; (try simp only [go_sem]); try rfl) | ((try simp only [go_sem]); try rfl))
            · have hje : N.1 = (j : Int) := by omega
              have hjt : N.1.toNat = j := by omega
              have g4 : decide ((j : Int) < (j : Int)) = false := decide_eq_false (by omega)
              rw [hjt] at hx
              generalize hX : dataS op (sizeK ns num) d cs (e.from_.getD 0) = X at hx hof hR hlen
              have hof2 := ofS_ok hof
              repeat' (first
               | (with_reducible first | refine t_seq fun K => ?_ | refine t_block ?_ | refine t_scope ?_ | refine t_label ?_ | refine t_skip ?_ | refine t_exit ?_ | refine t_ret ?_ | refine t_k ?_ | refine t_gF ?_ | exact kp_nil | exact Kp.refl _ | exact kp_to | refine kp_cons ?_ | refine kp_arr ?_ | refine kp_app ?_ | refine t_p ?_ | refine t_br (fun hc => ?_) fun hc => ?_)
               | ((with_reducible first | refine t_kE (t_openE ?_) | refine t_kD (t_openD ?_) | refine t_kE ?_ | refine t_kD ?_ | refine t_gS ?_ | refine t_kL ?_ | refine t_kLF ?_ ?_ | refine t_region fun K => ?_ | refine t_cond fun A B => ?_ | refine t_drawE (id := 11) (fun _ => true) [(0, true), (1, true), (2, true), (3, true), (4, true), (5, true), (6, true), (8, true), (9, true), (10, true), (11, true), (12, true), (13, true), (14, true), (7, false), (15, false), (16, true), (17, true)] (by kernel_rfl) fun K => ?_ | refine t_draw (by kernel_rfl) fun K => ?_); (try (first | refine t_hideE fun KL => ?_ | refine t_hideD fun KL => ?_)); simp only [go_sem, geff, kp41, hje, g4, hx, hof2, con63_c, slK_sl, aeV_def, arrV_def', Int.toNat_natCast, con30b_f, con36_f, con52_f, con53_f, con63_f, con71_f, con76_f, con77_f, con78_f])
               | ((with_reducible refine kp_skip ?_ ?_); rfl) | simp only [thenQ, blockQ, scopeQ, Nat.reduceEqDiff, reduceIte] | (with_reducible first | refine And.intro ?_ ?_ | intro vr))
              all_goals try (first | (with_reducible assumption) | (intros; (try simp only [Bool.and_eq_true, Bool.or_eq_true, Bool.or_eq_false_iff, Bool.not_eq_true', Bool.not_eq_false', decide_eq_true_eq, decide_eq_false_iff_not, beq_iff_eq, beq_eq_false_iff_ne, bne_iff_ne, bne_eq_false_iff_eq, ne_eq, inI64, List.length_append] at *) <;> omega))
              all_goals ((first | refine end_retE ?_ | refine end_normE ?_); simp only [fin, go_sem])
              exact app_of (by first | exact slK_sl | rfl) slK_sl hR.symm
        · rw [if_pos hde] at hR
          have hde' : (de != 0) = true := by simpa using hde
          repeat' (first
           | (with_reducible first | refine t_seq fun K => ?_ | refine t_block ?_ | refine t_scope ?_ | refine t_label ?_ | refine t_skip ?_ | refine t_exit ?_ | refine t_ret ?_ | refine t_k ?_ | refine t_gF ?_ | exact kp_nil | exact Kp.refl _ | exact kp_to | refine kp_cons ?_ | refine kp_arr ?_ | refine kp_app ?_ | refine t_p ?_ | refine t_br (fun hc => ?_) fun hc => ?_)
           | ((with_reducible first | refine t_kE (t_openE ?_) | refine t_kD (t_openD ?_) | refine t_kE ?_ | refine t_kD ?_ | refine t_gS ?_ | refine t_kL ?_ | refine t_kLF ?_ ?_ | refine t_region fun K => ?_ | refine t_cond fun A B => ?_ | refine t_drawE (id := 11) (fun _ => true) [(0, true), (1, true), (2, true), (3, true), (4, true), (5, true), (6, true), (8, true), (9, true), (10, true), (11, true), (12, true), (13, true), (14, true), (7, false), (15, false), (16, true), (17, true)] (by kernel_rfl) fun K => ?_ | refine t_draw (by kernel_rfl) fun K => ?_); (try (first | refine t_hideE fun KL => ?_ | refine t_hideD fun KL => ?_)); simp only [go_sem, geff, kp41, hie, g3, hr1, hD, hde', Int.toNat_natCast, con30b_f, con36_f, con52_f, con53_f, con63_f, con71_f, con76_f, con77_f, con78_f, con52_c, con53_c, arrs_length, slS_sl, slK_sl, ilsOf_sl, elT_all, dmT_all, sbV_def, dV_def])
           | ((with_reducible refine kp_skip ?_ ?_); rfl) | simp only [thenQ, blockQ, scopeQ, Nat.reduceEqDiff, reduceIte] | (with_reducible first | refine And.intro ?_ ?_ | intro vr))
          all_goals try (first | (with_reducible assumption) | (intros; (try simp only [Bool.and_eq_true, Bool.or_eq_true, Bool.or_eq_false_iff, Bool.not_eq_true', Bool.not_eq_false', decide_eq_true_eq, decide_eq_false_iff_not, beq_iff_eq, beq_eq_false_iff_ne, bne_iff_ne, bne_eq_false_iff_eq, ne_eq, inI64, List.length_append] at *) <;> omega))
          all_goals ((first | refine end_retE ?_ | refine end_normE ?_); simp only [fin, go_sem])
          exact app_of rfl rfl hR.symm
  · rw [if_pos h0] at hR
    have h0' : (er != 0) = true := by simpa using h0
    refine pc_ofR K4_ok mixed (kp41) (rs := [.cell 8 33, .tmp 9, .tmp 10]) Try.func41 rfl (by kernel_rfl) (by kernel_rfl) (Nat.le_of_ble_eq_true rfl) ?_
    simp only [initF_cons, initF_nil, Nat.reduceAdd]
    refine t_name fun KF => ?_
    unfold K4
    repeat' (first
     | (with_reducible first | refine t_seq fun K => ?_ | refine t_block ?_ | refine t_scope ?_ | refine t_label ?_ | refine t_skip ?_ | refine t_exit ?_ | refine t_ret ?_ | refine t_k ?_ | refine t_gF ?_ | exact kp_nil | exact Kp.refl _ | exact kp_to | refine kp_cons ?_ | refine kp_arr ?_ | refine kp_app ?_ | refine t_p ?_ | refine t_br (fun hc => ?_) fun hc => ?_)
     | ((with_reducible first | refine t_kE (t_openE ?_) | refine t_kD (t_openD ?_) | refine t_kE ?_ | refine t_kD ?_ | refine t_gS ?_ | refine t_kL ?_ | refine t_kLF ?_ ?_ | refine t_region fun K => ?_ | refine t_cond fun A B => ?_ | refine t_drawE (id := 11) (fun _ => true) [(0, true), (1, true), (2, true), (3, true), (4, true), (5, true), (6, true), (8, true), (9, true), (10, true), (11, true), (12, true), (13, true), (14, true), (7, false), (15, false), (16, true), (17, true)] (by kernel_rfl) fun K => ?_ | refine t_draw (by kernel_rfl) fun K => ?_); (try (first | refine t_hideE fun KL => ?_ | refine t_hideD fun KL => ?_)); simp only [go_sem, geff, kp41, con30b_f, con36_f, con52_f, con53_f, con63_f, con71_f, con76_f, con77_f, con78_f, con76_c, arrs_length, slK_sl, hG2, h0'])
     | ((with_reducible refine kp_skip ?_ ?_); rfl) | simp only [thenQ, blockQ, scopeQ, Nat.reduceEqDiff, reduceIte] | (with_reducible first | refine And.intro ?_ ?_ | intro vr))
    all_goals try (first | (with_reducible assumption) | (intros; (try simp only [Bool.and_eq_true, Bool.or_eq_true, Bool.or_eq_false_iff, Bool.not_eq_true', Bool.not_eq_false', decide_eq_true_eq, decide_eq_false_iff_not, beq_iff_eq, beq_eq_false_iff_ne, bne_iff_ne, bne_eq_false_iff_eq, ne_eq, inI64, List.length_append] at *) <;> omega))
    all_goals ((first | refine end_retE ?_ | refine end_normE ?_); simp only [fin, go_sem])
    exact app_of rfl rfl hR.symm
noncomputable def con41 : PCon Try.prog where
  f := 41
  c := fun
    | [.lit (.string op), xns, .lit (.int .i64 num), xcs] => match slK .i64 xns, arrsOf xcs with | some ns, some cs => some (cs.length ≤ 4096 ∧ (∀ a ∈ cs, okA a), appV (applyS op ns num cs)) | _, _ => none
    | _ => none
  ok := by
    intro args p r hc hp
    split at hc
    · split at hc
      · rename_i hns hcs
        cases hc
        exact PC.weak ((fun hp : _ ∧ _ => rapply_pc hp.1 hp.2) hp) ⟨LeA.refl _, slK_le hns, LeA.refl _, arrsOf_le hcs, trivial⟩
      · cases hc
    · cases hc
  fk := fk41
theorem con41_f : con41.f = 41 := rfl
theorem con41_c {op : ByteArray} {xns : AV} {num : Int} {xcs : AV} : con41.c [.lit (.string op), xns, .lit (.int .i64 num), xcs] = match slK .i64 xns, arrsOf xcs with | some ns, some cs => some (cs.length ≤ 4096 ∧ (∀ a ∈ cs, okA a), appV (applyS op ns num cs)) | _, _ => none := rfl
end Go.Proofs.Ytjlcbojpiieafaa

/- The small functions of the laws on structure. -/
namespace Go.Proofs.Ytjlcbojpiieafaa
open Go Go.Fw
set_option maxRecDepth 20000

def listA (l : List Int) : Arr := ⟨sInt, [(l.length : Int)], l⟩
def scalA (n : Int) : Arr := ⟨sInt, [], [n]⟩
theorem arr_of {e : ByteArray} {x y : AV} {a : Arr} {d w : List Int} (hx : slK .i64 x = some d) (hy : slK .i64 y = some w) (h : a = ⟨e, d, w⟩) : LeA (.agg [.lit (.string e), x, y]) (arrV a) := by
  subst h; exact LeA.agg ⟨LeA.refl _, slK_le hx, slK_le hy, trivial⟩
theorem list_pc {l : List Int} : PC Try.prog 45 [.sl false 1 (ints .i64 l)] (arrV (listA l)) := by
  refine pc_ofR F1_ok mixed (kp45) (rs := [.cell 2 33]) Try.func45 rfl (by kernel_rfl) (by kernel_rfl) (Nat.le_of_ble_eq_true rfl) ?_
  simp only [initF_cons, initF_nil, Nat.reduceAdd]
  refine t_name fun KF => ?_
  unfold F1
  repeat' (first
   | (with_reducible first | refine t_seq fun K => ?_ | refine t_block ?_ | refine t_scope ?_ | refine t_label ?_ | refine t_skip ?_ | refine t_exit ?_ | refine t_ret ?_ | refine t_k ?_ | refine t_gF ?_ | exact kp_nil | exact Kp.refl _ | exact kp_to | refine kp_cons ?_ | refine kp_arr ?_ | refine kp_app ?_ | refine t_p ?_ | refine t_br (fun hc => ?_) fun hc => ?_)
   | ((with_reducible first | refine t_kE (t_openE ?_) | refine t_kD (t_openD ?_) | refine t_kE ?_ | refine t_kD ?_ | refine t_gS ?_ | refine t_kL ?_ | refine t_kLF ?_ ?_ | refine t_region fun K => ?_ | refine t_cond fun A B => ?_ | refine t_draw (by kernel_rfl) fun K => ?_); (try (first | refine t_hideE fun KL => ?_ | refine t_hideD fun KL => ?_)); simp only [go_sem, geff, kp45])
   | ((with_reducible refine kp_skip ?_ ?_); rfl) | simp only [thenQ, blockQ, scopeQ, Nat.reduceEqDiff, reduceIte] | (with_reducible first | refine And.intro ?_ ?_ | intro vr))
  all_goals try (first | (with_reducible assumption) | (intros; (try simp only [Bool.and_eq_true, Bool.or_eq_true, Bool.or_eq_false_iff, Bool.not_eq_true', Bool.not_eq_false', decide_eq_true_eq, decide_eq_false_iff_not, beq_iff_eq, beq_eq_false_iff_ne, bne_iff_ne, bne_eq_false_iff_eq, ne_eq, inI64, List.length_append] at *) <;> omega))
  all_goals ((first | refine end_retE ?_ | refine end_normE ?_); simp only [fin, go_sem])
  exact arr_of (by first | rfl | exact slK_sl) slK_sl rfl
noncomputable def con45 : PCon Try.prog where
  f := 45
  c := fun
    | [xl] => match slK .i64 xl with | some l => some (True, arrV (listA l)) | _ => none
    | _ => none
  ok := by
    intro args p r hc hp
    split at hc
    · split at hc
      · rename_i hl
        cases hc
        exact PC.weak list_pc ⟨slK_le hl, trivial⟩
      · cases hc
    · cases hc
  fk := fk45
theorem con45_f : con45.f = 45 := rfl
theorem con45_c {xl : AV} : con45.c [xl] = match slK .i64 xl with | some l => some (True, arrV (listA l)) | _ => none := rfl
theorem scal_pc {n : Int} : PC Try.prog 48 [.lit (.int .i64 n)] (arrV (scalA n)) := by
  refine pc_ofR F1_ok mixed (kp48) (rs := [.cell 2 33]) Try.func48 rfl (by kernel_rfl) (by kernel_rfl) (Nat.le_of_ble_eq_true rfl) ?_
  simp only [initF_cons, initF_nil, Nat.reduceAdd]
  refine t_name fun KF => ?_
  unfold F1
  repeat' (first
   | (with_reducible first | refine t_seq fun K => ?_ | refine t_block ?_ | refine t_scope ?_ | refine t_label ?_ | refine t_skip ?_ | refine t_exit ?_ | refine t_ret ?_ | refine t_k ?_ | refine t_gF ?_ | exact kp_nil | exact Kp.refl _ | exact kp_to | refine kp_cons ?_ | refine kp_arr ?_ | refine kp_app ?_ | refine t_p ?_ | refine t_br (fun hc => ?_) fun hc => ?_)
   | ((with_reducible first | refine t_kE (t_openE ?_) | refine t_kD (t_openD ?_) | refine t_kE ?_ | refine t_kD ?_ | refine t_gS ?_ | refine t_kL ?_ | refine t_kLF ?_ ?_ | refine t_region fun K => ?_ | refine t_cond fun A B => ?_ | refine t_draw (by kernel_rfl) fun K => ?_); (try (first | refine t_hideE fun KL => ?_ | refine t_hideD fun KL => ?_)); simp only [go_sem, geff, kp48])
   | ((with_reducible refine kp_skip ?_ ?_); rfl) | simp only [thenQ, blockQ, scopeQ, Nat.reduceEqDiff, reduceIte] | (with_reducible first | refine And.intro ?_ ?_ | intro vr))
  all_goals try (first | (with_reducible assumption) | (intros; (try simp only [Bool.and_eq_true, Bool.or_eq_true, Bool.or_eq_false_iff, Bool.not_eq_true', Bool.not_eq_false', decide_eq_true_eq, decide_eq_false_iff_not, beq_iff_eq, beq_eq_false_iff_ne, bne_iff_ne, bne_eq_false_iff_eq, ne_eq, inI64, List.length_append] at *) <;> omega))
  all_goals ((first | refine end_retE ?_ | refine end_normE ?_); simp only [fin, go_sem])
  exact arr_of (by first | rfl | exact slK_sl) (by first | rfl | exact slK_sl) rfl
noncomputable def con48 : PCon Try.prog where
  f := 48
  c := fun
    | [.lit (.int .i64 n)] => some (True, arrV (scalA n))
    | _ => none
  ok := by
    intro args p r hc hp
    split at hc
    · cases hc; exact scal_pc
    · cases hc
  fk := fk48
theorem con48_f : con48.f = 48 := rfl
theorem con48_c {n : Int} : con48.c [.lit (.int .i64 n)] = some (True, arrV (scalA n)) := rfl
def sameA (a b : Arr) : Bool := (ofE a == 0) && eqA a b
noncomputable def L1 : Env := envJ (P := Try.prog) jk2 zer (fun _ => false) (fun _ => false) [con24, con36] []
theorem L1_ok : EnvOk Try.prog L1 := envJOk zer_ok
theorem same2_pc {a b : Arr} (ha : okA a) : PC Try.prog 47 [arrV a, arrV b] (.lit (.bool (sameA a b))) := by
  have h1 := ha.1
  have h2 := ha.2
  unfold sameA
  cases hv : (ofE a == 0) with
  | true =>
    refine pc_ofR L1_ok mixed (kp47) (rs := [.tmp 4]) Try.func47 rfl (by kernel_rfl) (by kernel_rfl) (Nat.le_of_ble_eq_true rfl) ?_
    simp only [initF_cons, initF_nil, Nat.reduceAdd]
    refine t_name fun KF => ?_
    unfold L1
    repeat' (first
     | (with_reducible first | refine t_seq fun K => ?_ | refine t_block ?_ | refine t_scope ?_ | refine t_label ?_ | refine t_skip ?_ | refine t_exit ?_ | refine t_ret ?_ | refine t_k ?_ | refine t_gF ?_ | exact kp_nil | exact Kp.refl _ | exact kp_to | refine kp_cons ?_ | refine kp_arr ?_ | refine kp_app ?_ | refine t_p ?_ | refine t_br (fun hc => ?_) fun hc => ?_)
     | ((with_reducible first | refine t_kE (t_openE ?_) | refine t_kD (t_openD ?_) | refine t_kE ?_ | refine t_kD ?_ | refine t_gS ?_ | refine t_kL ?_ | refine t_kLF ?_ ?_ | refine t_region fun K => ?_ | refine t_cond fun A B => ?_ | refine t_draw (by kernel_rfl) fun K => ?_); (try (first | refine t_hideE fun KL => ?_ | refine t_hideD fun KL => ?_)); simp only [go_sem, geff, kp47, con24_f, con36_f, con24_c, con36_c, arrV_def', arrOf_agg, slK_sl, hv])
     | ((with_reducible refine kp_skip ?_ ?_); rfl) | simp only [thenQ, blockQ, scopeQ, Nat.reduceEqDiff, reduceIte] | (with_reducible first | refine And.intro ?_ ?_ | intro vr))
    all_goals try exact ha
    all_goals try (first | (with_reducible assumption) | (intros; (try simp only [Bool.and_eq_true, Bool.or_eq_true, Bool.or_eq_false_iff, Bool.not_eq_true', Bool.not_eq_false', decide_eq_true_eq, decide_eq_false_iff_not, beq_iff_eq, beq_eq_false_iff_ne, bne_iff_ne, bne_eq_false_iff_eq, ne_eq, inI64, List.length_append] at *) <;> omega))
    all_goals ((first | refine end_retE ?_ | refine end_normE ?_); simp only [fin, go_sem])
    exact LeA.refl _
  | false =>
    refine pc_ofR L1_ok mixed (kp47) (rs := [.tmp 4]) Try.func47 rfl (by kernel_rfl) (by kernel_rfl) (Nat.le_of_ble_eq_true rfl) ?_
    simp only [initF_cons, initF_nil, Nat.reduceAdd]
    refine t_name fun KF => ?_
    unfold L1
    repeat' (first
     | (with_reducible first | refine t_seq fun K => ?_ | refine t_block ?_ | refine t_scope ?_ | refine t_label ?_ | refine t_skip ?_ | refine t_exit ?_ | refine t_ret ?_ | refine t_k ?_ | refine t_gF ?_ | exact kp_nil | exact Kp.refl _ | exact kp_to | refine kp_cons ?_ | refine kp_arr ?_ | refine kp_app ?_ | refine t_p ?_ | refine t_br (fun hc => ?_) fun hc => ?_)
     | ((with_reducible first | refine t_kE (t_openE ?_) | refine t_kD (t_openD ?_) | refine t_kE ?_ | refine t_kD ?_ | refine t_gS ?_ | refine t_kL ?_ | refine t_kLF ?_ ?_ | refine t_region fun K => ?_ | refine t_cond fun A B => ?_ | refine t_draw (by kernel_rfl) fun K => ?_); (try (first | refine t_hideE fun KL => ?_ | refine t_hideD fun KL => ?_)); simp only [go_sem, geff, kp47, con24_f, con36_f, con24_c, con36_c, arrV_def', arrOf_agg, slK_sl, hv])
     | ((with_reducible refine kp_skip ?_ ?_); rfl) | simp only [thenQ, blockQ, scopeQ, Nat.reduceEqDiff, reduceIte] | (with_reducible first | refine And.intro ?_ ?_ | intro vr))
    all_goals try exact ha
    all_goals try (first | (with_reducible assumption) | (intros; (try simp only [Bool.and_eq_true, Bool.or_eq_true, Bool.or_eq_false_iff, Bool.not_eq_true', Bool.not_eq_false', decide_eq_true_eq, decide_eq_false_iff_not, beq_iff_eq, beq_eq_false_iff_ne, bne_iff_ne, bne_eq_false_iff_eq, ne_eq, inI64, List.length_append] at *) <;> omega))
    all_goals ((first | refine end_retE ?_ | refine end_normE ?_); simp only [fin, go_sem])
    exact LeA.refl _
noncomputable def con47 : PCon Try.prog where
  f := 47
  c := fun
    | [xa, xb] => match arrOf xa, arrOf xb with | some a, some b => some (okA a, .lit (.bool (sameA a b))) | _, _ => none
    | _ => none
  ok := by
    intro args p r hc hp
    split at hc
    · split at hc
      · rename_i ha hb
        cases hc
        exact PC.weak (same2_pc hp) ⟨arrOf_le ha, arrOf_le hb, trivial⟩
      · cases hc
    · cases hc
  fk := fk47
theorem con47_f : con47.f = 47 := rfl
theorem con47_c {xa : AV} {xb : AV} : con47.c [xa, xb] = match arrOf xa, arrOf xb with | some a, some b => some (okA a, .lit (.bool (sameA a b))) | _, _ => none := rfl
def noneS (op : ByteArray) : ByteArray := ⟨#[110, 111, 110, 101, 32]⟩ ++ op
def doT (op : ByteArray) (r : Arr × Bool × Int) : Arr := if r.2.2 ≠ 0 then ⟨noneS op, [], []⟩ else r.1
def doA (op : ByteArray) (k : Int) (cs : List Arr) : Arr := doT op (applyS op (if sizedS op = true then [k] else []) 0 cs)
noncomputable def L2 : Env := envJ (P := Try.prog) jk2 zer (fun _ => false) (fun _ => false) [con40, con84] []
theorem L2_ok : EnvOk Try.prog L2 := envJOk zer_ok
set_option maxHeartbeats 2000000 in
theorem do_pc {op : ByteArray} {k : Int} {cs : List Arr} (hz : op.size ≤ 1000) (hn : cs.length ≤ 4096) (ho : ∀ a ∈ cs, okA a) : PC Try.prog 46 [.lit (.string op), .lit (.int .i64 k), .sl false 3 (arrs cs)] (arrV (doA op k cs)) := by
  generalize hR : doA op k cs = R
  unfold doA at hR
  cases hs : sizedS op with
  | true =>
    rw [hs, if_pos rfl] at hR
    generalize hA : applyS op [k] 0 cs = A at hR
    unfold doT at hR
    refine pc_ofR L2_ok mixed (kp46) (rs := [.cell 6 33]) Try.func46 rfl (by kernel_rfl) (by kernel_rfl) (Nat.le_of_ble_eq_true rfl) ?_
    simp only [initF_cons, initF_nil, Nat.reduceAdd]
    refine t_name fun KF => ?_
    unfold L2
    repeat' (first
     | (with_reducible first | refine t_seq fun K => ?_ | refine t_block ?_ | refine t_scope ?_ | refine t_label ?_ | refine t_skip ?_ | refine t_exit ?_ | refine t_ret ?_ | refine t_k ?_ | refine t_gF ?_ | exact kp_nil | exact Kp.refl _ | exact kp_to | refine kp_cons ?_ | refine kp_arr ?_ | refine kp_app ?_ | refine t_p ?_ | refine t_br (fun hc => ?_) fun hc => ?_)
     | ((with_reducible first | refine t_kE (t_openE ?_) | refine t_kD (t_openD ?_) | refine t_kE ?_ | refine t_kD ?_ | refine t_gS ?_ | refine t_kL ?_ | refine t_kLF ?_ ?_ | refine t_region fun K => ?_ | refine t_cond fun A B => ?_ | refine t_draw (by kernel_rfl) fun K => ?_); (try (first | refine t_hideE fun KL => ?_ | refine t_hideD fun KL => ?_)); simp only [go_sem, geff, kp46, con40_f, con84_f, con40_c, con84_c, slK_cons, slK_emp, arrsOf_sl, appV_def, arrV_def', hs, hA])
     | ((with_reducible refine kp_skip ?_ ?_); rfl) | simp only [thenQ, blockQ, scopeQ, Nat.reduceEqDiff, reduceIte] | (with_reducible first | refine And.intro ?_ ?_ | intro vr))
    all_goals try exact ho _ (by assumption)
    all_goals try (show 5 + op.size ≤ 9223372036854775807; omega)
    all_goals try (first | (with_reducible assumption) | (intros; (try simp only [Bool.and_eq_true, Bool.or_eq_true, Bool.or_eq_false_iff, Bool.not_eq_true', Bool.not_eq_false', decide_eq_true_eq, decide_eq_false_iff_not, beq_iff_eq, beq_eq_false_iff_ne, bne_iff_ne, bne_eq_false_iff_eq, ne_eq, inI64, List.length_append] at *) <;> omega))
    all_goals ((first | refine end_retE ?_ | refine end_normE ?_); simp only [fin, go_sem])
    · rw [if_pos (by simpa using hc)] at hR
      exact arr_of (by first | rfl | exact slK_sl) (by first | rfl | exact slK_sl) hR.symm
    · rw [if_neg (by simpa using hc)] at hR
      exact arr_of slK_sl slK_sl hR.symm
  | false =>
    rw [hs, if_neg (by simp)] at hR
    generalize hA : applyS op [] 0 cs = A at hR
    unfold doT at hR
    refine pc_ofR L2_ok mixed (kp46) (rs := [.cell 6 33]) Try.func46 rfl (by kernel_rfl) (by kernel_rfl) (Nat.le_of_ble_eq_true rfl) ?_
    simp only [initF_cons, initF_nil, Nat.reduceAdd]
    refine t_name fun KF => ?_
    unfold L2
    repeat' (first
     | (with_reducible first | refine t_seq fun K => ?_ | refine t_block ?_ | refine t_scope ?_ | refine t_label ?_ | refine t_skip ?_ | refine t_exit ?_ | refine t_ret ?_ | refine t_k ?_ | refine t_gF ?_ | exact kp_nil | exact Kp.refl _ | exact kp_to | refine kp_cons ?_ | refine kp_arr ?_ | refine kp_app ?_ | refine t_p ?_ | refine t_br (fun hc => ?_) fun hc => ?_)
     | ((with_reducible first | refine t_kE (t_openE ?_) | refine t_kD (t_openD ?_) | refine t_kE ?_ | refine t_kD ?_ | refine t_gS ?_ | refine t_kL ?_ | refine t_kLF ?_ ?_ | refine t_region fun K => ?_ | refine t_cond fun A B => ?_ | refine t_draw (by kernel_rfl) fun K => ?_); (try (first | refine t_hideE fun KL => ?_ | refine t_hideD fun KL => ?_)); simp only [go_sem, geff, kp46, con40_f, con84_f, con40_c, con84_c, slK_nil, slK_cons, slK_emp, arrsOf_sl, appV_def, arrV_def', hs, hA])
     | ((with_reducible refine kp_skip ?_ ?_); rfl) | simp only [thenQ, blockQ, scopeQ, Nat.reduceEqDiff, reduceIte] | (with_reducible first | refine And.intro ?_ ?_ | intro vr))
    all_goals try exact ho _ (by assumption)
    all_goals try (show 5 + op.size ≤ 9223372036854775807; omega)
    all_goals try (first | (with_reducible assumption) | (intros; (try simp only [Bool.and_eq_true, Bool.or_eq_true, Bool.or_eq_false_iff, Bool.not_eq_true', Bool.not_eq_false', decide_eq_true_eq, decide_eq_false_iff_not, beq_iff_eq, beq_eq_false_iff_ne, bne_iff_ne, bne_eq_false_iff_eq, ne_eq, inI64, List.length_append] at *) <;> omega))
    all_goals ((first | refine end_retE ?_ | refine end_normE ?_); simp only [fin, go_sem])
    · rw [if_pos (by simpa using hc)] at hR
      exact arr_of (by first | rfl | exact slK_sl) (by first | rfl | exact slK_sl) hR.symm
    · rw [if_neg (by simpa using hc)] at hR
      exact arr_of slK_sl slK_sl hR.symm
noncomputable def con46 : PCon Try.prog where
  f := 46
  c := fun
    | [.lit (.string op), .lit (.int .i64 k), xcs] => match arrsOf xcs with | some cs => some (op.size ≤ 1000 ∧ cs.length ≤ 4096 ∧ (∀ a ∈ cs, okA a), arrV (doA op k cs)) | _ => none
    | _ => none
  ok := by
    intro args p r hc hp
    split at hc
    · split at hc
      · rename_i hcs
        cases hc
        exact PC.weak ((fun hp : _ ∧ _ ∧ _ => do_pc hp.1 hp.2.1 hp.2.2) hp) ⟨LeA.refl _, LeA.refl _, arrsOf_le hcs, trivial⟩
      · cases hc
    · cases hc
  fk := fk46
theorem con46_f : con46.f = 46 := rfl
theorem con46_c {op : ByteArray} {k : Int} {xcs : AV} : con46.c [.lit (.string op), .lit (.int .i64 k), xcs] = match arrsOf xcs with | some cs => some (op.size ≤ 1000 ∧ cs.length ≤ 4096 ∧ (∀ a ∈ cs, okA a), arrV (doA op k cs)) | _ => none := rfl
def fewM (l : List Arr) : Bool := (l.all fun a => fewA a 60) && decide ((l.length : Int) ≤ 5)
noncomputable def L3 : Env := envJ (P := Try.prog) jk2 zer (fun _ => false) (fun _ => false) [con31] []
theorem L3_ok : EnvOk Try.prog L3 := envJOk zer_ok
set_option maxHeartbeats 2000000 in
theorem fewm_pc {l : List Arr} (hm : l.length ≤ 9223372036854775807) : PC Try.prog 39 [.sl false 3 (arrs l)] (.lit (.bool (fewM l))) := by
  unfold fewM
  generalize hB : (l.all fun a => fewA a 60) = Bb
  refine pc_ofR L3_ok mixed (kp39) (rs := [.tmp 2]) Try.func39 rfl (by kernel_rfl) (by kernel_rfl) (Nat.le_of_ble_eq_true rfl) ?_
  simp only [initF_cons, initF_nil, Nat.reduceAdd]
  refine t_name fun KF => ?_
  unfold L3
  repeat' (first
   | (with_reducible first | refine t_seq fun K => ?_ | refine t_block ?_ | refine t_scope ?_ | refine t_label ?_ | refine t_skip ?_ | refine t_exit ?_ | refine t_ret ?_ | refine t_k ?_ | refine t_gF ?_ | exact kp_nil | exact Kp.refl _ | exact kp_to | refine kp_cons ?_ | refine kp_arr ?_ | refine kp_app ?_ | refine t_p ?_ | refine t_br (fun hc => ?_) fun hc => ?_)
   | ((with_reducible first | refine t_kE (t_openE ?_) | refine t_kD (t_openD ?_) | refine t_kE ?_ | refine t_kD ?_ | refine t_gS ?_ | refine t_kL ?_ | refine t_kLF ?_ ?_ | refine t_region fun K => ?_ | refine t_cond fun A B => ?_ | refine t_draw (by kernel_rfl) fun K => ?_); (try (first | refine t_hideE fun KL => ?_ | refine t_hideD fun KL => ?_)); simp only [go_sem, geff, kp39, con31_f, arrs_length])
   | ((with_reducible refine kp_skip ?_ ?_); rfl) | simp only [thenQ, blockQ, scopeQ, Nat.reduceEqDiff, reduceIte] | (with_reducible first | refine And.intro ?_ ?_ | intro vr))
  all_goals try (first | (with_reducible assumption) | (intros; (try simp only [Bool.and_eq_true, Bool.or_eq_true, Bool.or_eq_false_iff, Bool.not_eq_true', Bool.not_eq_false', decide_eq_true_eq, decide_eq_false_iff_not, beq_iff_eq, beq_eq_false_iff_ne, bne_iff_ne, bne_eq_false_iff_eq, ne_eq, inI64, List.length_append] at *) <;> omega))
  refine t_loopF (ι := { i : Nat // i ≤ l.length ∧ ((l.drop i).all fun a => fewA a 60) = Bb }) (fun i => [(7, .lit (.int .i64 i.1))]) (fun i => []) (fun i => l.length - i.1) ⟨0, by omega, hB⟩ ?_ ?_
  · simp only [updL_nil, updL_cons, delF_top, delF_upd, Nat.reduceEqDiff, reduceIte]
    refine Le.frameS (by first | rfl | (simp only [go_sem]; try rfl)) ?_
    repeat' (first | exact leF_top _ | exact (fun _ => LeR.refl _) | (with_reducible refine leF_sl ?_ ?_) | (refine leF_upd ?_ ?_))
    all_goals (first | exact LeR.top _ | exact LeR.refl _ | (refine LeR.of_eq ?_; (try simp only [go_sem]); try rfl) | ((try simp only [go_sem]); try rfl))
  rintro ⟨i, hi, hF⟩ K0
  rcases Nat.lt_or_ge i l.length with hc | hc
  · rw [drop_getD nilA hc, List.all_cons] at hF
    have g3 : decide ((i : Int) < (l.length : Int)) = true := decide_eq_true (by omega)
    cases hv : fewA (l.getD i nilA) 60 with
    | true =>
      rw [hv, Bool.true_and] at hF
      repeat' (first
       | (with_reducible first | refine t_seq fun K => ?_ | refine t_block ?_ | refine t_scope ?_ | refine t_label ?_ | refine t_skip ?_ | refine t_exit ?_ | refine t_ret ?_ | refine t_k ?_ | refine t_gF ?_ | exact kp_nil | exact Kp.refl _ | exact kp_to | refine kp_cons ?_ | refine kp_arr ?_ | refine kp_app ?_ | refine t_p ?_ | refine t_br (fun hc => ?_) fun hc => ?_)
       | ((with_reducible first | refine t_kE (t_openE ?_) | refine t_kD (t_openD ?_) | refine t_kE ?_ | refine t_kD ?_ | refine t_gS ?_ | refine t_kL ?_ | refine t_kLF ?_ ?_ | refine t_region fun K => ?_ | refine t_cond fun A B => ?_ | refine t_draw (by kernel_rfl) fun K => ?_); (try (first | refine t_hideE fun KL => ?_ | refine t_hideD fun KL => ?_)); simp only [go_sem, geff, kp39, g3, hv, Int.toNat_natCast, con31_f, con31_c, arrs_length, arrV_def', arrOf_agg, slK_sl])
       | ((with_reducible refine kp_skip ?_ ?_); rfl) | simp only [thenQ, blockQ, scopeQ, Nat.reduceEqDiff, reduceIte] | (with_reducible first | refine And.intro ?_ ?_ | intro vr))
      all_goals try (first | (with_reducible assumption) | (intros; (try simp only [Bool.and_eq_true, Bool.or_eq_true, Bool.or_eq_false_iff, Bool.not_eq_true', Bool.not_eq_false', decide_eq_true_eq, decide_eq_false_iff_not, beq_iff_eq, beq_eq_false_iff_ne, bne_iff_ne, bne_eq_false_iff_eq, ne_eq, inI64, List.length_append] at *) <;> omega))
      refine ⟨⟨i + 1, by omega, hF⟩, by first | (simp only; omega) | omega, ?_⟩
      simp only [updL_nil, updL_cons, delF_top, delF_upd, Nat.reduceEqDiff, reduceIte]
      refine le_backD (by first | rfl | (simp only [go_sem]; try rfl)) (by first | exact Nat.zero_le _ | simp) (by first | rfl | simp [lowO, low_lit, low_sl, low_ref, low_arr]) ?_ ?_
      · repeat' (first | exact low_top | (refine low_upd rfl ?_))
      repeat' (first | exact leF_top _ | exact (fun _ => LeR.refl _) | (with_reducible refine leF_sl ?_ ?_) | (refine leF_upd ?_ ?_))
      all_goals (first | exact LeR.top _ | exact LeR.refl _ | (refine LeR.of_eq ?_; (try simp only [go_sem]); try rfl) | ((try simp only [go_sem]); try rfl))
    | false =>
      rw [hv, Bool.false_and] at hF
      repeat' (first
       | (with_reducible first | refine t_seq fun K => ?_ | refine t_block ?_ | refine t_scope ?_ | refine t_label ?_ | refine t_skip ?_ | refine t_exit ?_ | refine t_ret ?_ | refine t_k ?_ | refine t_gF ?_ | exact kp_nil | exact Kp.refl _ | exact kp_to | refine kp_cons ?_ | refine kp_arr ?_ | refine kp_app ?_ | refine t_p ?_ | refine t_br (fun hc => ?_) fun hc => ?_)
       | ((with_reducible first | refine t_kE (t_openE ?_) | refine t_kD (t_openD ?_) | refine t_kE ?_ | refine t_kD ?_ | refine t_gS ?_ | refine t_kL ?_ | refine t_kLF ?_ ?_ | refine t_region fun K => ?_ | refine t_cond fun A B => ?_ | refine t_draw (by kernel_rfl) fun K => ?_); (try (first | refine t_hideE fun KL => ?_ | refine t_hideD fun KL => ?_)); simp only [go_sem, geff, kp39, g3, hv, Int.toNat_natCast, con31_f, con31_c, arrs_length, arrV_def', arrOf_agg, slK_sl])
       | ((with_reducible refine kp_skip ?_ ?_); rfl) | simp only [thenQ, blockQ, scopeQ, Nat.reduceEqDiff, reduceIte] | (with_reducible first | refine And.intro ?_ ?_ | intro vr))
      all_goals try (first | (with_reducible assumption) | (intros; (try simp only [Bool.and_eq_true, Bool.or_eq_true, Bool.or_eq_false_iff, Bool.not_eq_true', Bool.not_eq_false', decide_eq_true_eq, decide_eq_false_iff_not, beq_iff_eq, beq_eq_false_iff_ne, bne_iff_ne, bne_eq_false_iff_eq, ne_eq, inI64, List.length_append] at *) <;> omega))
      all_goals ((first | refine end_retE ?_ | refine end_normE ?_); simp only [fin, go_sem])
      rw [← hF]; exact LeA.refl _
  · have hie : i = l.length := by omega
    have g3 : decide ((l.length : Int) < (l.length : Int)) = false := decide_eq_false (by omega)
    rw [hie, List.drop_eq_nil_of_le (by omega), List.all_nil] at hF
    repeat' (first
     | (with_reducible first | refine t_seq fun K => ?_ | refine t_block ?_ | refine t_scope ?_ | refine t_label ?_ | refine t_skip ?_ | refine t_exit ?_ | refine t_ret ?_ | refine t_k ?_ | refine t_gF ?_ | exact kp_nil | exact Kp.refl _ | exact kp_to | refine kp_cons ?_ | refine kp_arr ?_ | refine kp_app ?_ | refine t_p ?_ | refine t_br (fun hc => ?_) fun hc => ?_)
     | ((with_reducible first | refine t_kE (t_openE ?_) | refine t_kD (t_openD ?_) | refine t_kE ?_ | refine t_kD ?_ | refine t_gS ?_ | refine t_kL ?_ | refine t_kLF ?_ ?_ | refine t_region fun K => ?_ | refine t_cond fun A B => ?_ | refine t_draw (by kernel_rfl) fun K => ?_); (try (first | refine t_hideE fun KL => ?_ | refine t_hideD fun KL => ?_)); simp only [go_sem, geff, kp39, hie, g3, Int.toNat_natCast, con31_f, arrs_length])
     | ((with_reducible refine kp_skip ?_ ?_); rfl) | simp only [thenQ, blockQ, scopeQ, Nat.reduceEqDiff, reduceIte] | (with_reducible first | refine And.intro ?_ ?_ | intro vr))
    all_goals try (first | (with_reducible assumption) | (intros; (try simp only [Bool.and_eq_true, Bool.or_eq_true, Bool.or_eq_false_iff, Bool.not_eq_true', Bool.not_eq_false', decide_eq_true_eq, decide_eq_false_iff_not, beq_iff_eq, beq_eq_false_iff_ne, bne_iff_ne, bne_eq_false_iff_eq, ne_eq, inI64, List.length_append] at *) <;> omega))
    all_goals ((first | refine end_retE ?_ | refine end_normE ?_); simp only [fin, go_sem])
    rw [← hF]; exact LeA.refl _
noncomputable def con39 : PCon Try.prog where
  f := 39
  c := fun
    | [xl] => match arrsOf xl with | some l => some (l.length ≤ 9223372036854775807, .lit (.bool (fewM l))) | _ => none
    | _ => none
  ok := by
    intro args p r hc hp
    split at hc
    · split at hc
      · rename_i hl
        cases hc
        exact PC.weak (fewm_pc hp) ⟨arrsOf_le hl, trivial⟩
      · cases hc
    · cases hc
  fk := fk39
theorem con39_f : con39.f = 39 := rfl
theorem con39_c {xl : AV} : con39.c [xl] = match arrsOf xl with | some l => some (l.length ≤ 9223372036854775807, .lit (.bool (fewM l))) | _ => none := rfl
end Go.Proofs.Ytjlcbojpiieafaa

/- The examples. -/
namespace Go.Proofs.Ytjlcbojpiieafaa
open Go Go.Fw
set_option maxRecDepth 20000

theorem aw1 : applyS ⟨#[105, 110, 100, 101, 120]⟩ [] 0 [listA [5, 6, 7], scalA 3] = (scalA 0, true, 0) := by kernel_rfl
theorem aw2 : doA ⟨#[119, 105, 110, 100, 111, 119, 115]⟩ 2 [listA [5, 6, 7]] = ⟨sInt, [2, 2], [5, 6, 6, 7]⟩ := by kernel_rfl
theorem aw3 : doA ⟨#[117, 112, 100, 97, 116, 101]⟩ 0 [listA [5, 6, 7], scalA 1, scalA 9] = listA [5, 9, 7] := by kernel_rfl
theorem aw4 : sameA ⟨sInt, [2, 2], [5, 6, 6, 7]⟩ ⟨⟨#[105, 110, 116]⟩, [2, 2], [5, 6, 6, 7]⟩ = true := by kernel_rfl
theorem aw5 : sameA (scalA 0) (scalA 0) = true := by kernel_rfl
theorem aw6 : sameA (listA [5, 9, 7]) (listA [5, 9, 7]) = true := by kernel_rfl
theorem arr_eta (a : Arr) : (⟨a.e, a.d, a.x⟩ : Arr) = a := rfl
theorem okl (l : List Int) (h : l.length ≤ 1000000) : okA (listA l) := ⟨by simp [listA], h⟩
theorem oks (n : Int) : okA (scalA n) := ⟨by simp [scalA], by simp [scalA]⟩
theorem okc (a : Arr) (cs : List Arr) (ha : okA a) (h : ∀ b ∈ cs, okA b) : ∀ b ∈ a :: cs, okA b := fun b hb => by
  rcases List.mem_cons.1 hb with rfl | hb
  · exact ha
  · exact h b hb
theorem okn : ∀ b ∈ ([] : List Arr), okA b := fun b hb => by cases hb
noncomputable def N1 : Env := envJ (P := Try.prog) jk2 zer (fun _ => false) (fun _ => false) [con40, con45, con46, con47, con48] []
theorem N1_ok : EnvOk Try.prog N1 := envJOk zer_ok
set_option maxHeartbeats 4000000 in
theorem awake21_pc : PC Try.prog 38 [] (.lit (.bool true)) := by
  have h1 := okc _ _ (okl [5, 6, 7] (by simp)) (okc _ _ (oks 3) okn)
  have h2 := okc _ _ (okl [5, 6, 7] (by simp)) okn
  have h3 := okc _ _ (okl [5, 6, 7] (by simp)) (okc _ _ (oks 1) (okc _ _ (oks 9) okn))
  have k1 : okA ⟨sInt, [2, 2], [5, 6, 6, 7]⟩ := ⟨by simp, by simp⟩
  have k2 := oks 0
  have k3 := okl [5, 9, 7] (by simp)
  refine pc_ofR N1_ok mixed (kp38) (rs := [.tmp 0]) Try.func38 rfl (by kernel_rfl) (by kernel_rfl) (Nat.le_of_ble_eq_true rfl) ?_
  simp only [initF_cons, initF_nil, Nat.reduceAdd]
  refine t_name fun KF => ?_
  unfold N1
  repeat' (first
   | (with_reducible first | refine t_seq fun K => ?_ | refine t_block ?_ | refine t_scope ?_ | refine t_label ?_ | refine t_skip ?_ | refine t_exit ?_ | refine t_ret ?_ | refine t_k ?_ | refine t_gF ?_ | exact kp_nil | exact Kp.refl _ | exact kp_to | refine kp_cons ?_ | refine kp_arr ?_ | refine kp_app ?_ | refine t_p ?_ | refine t_br (fun hc => ?_) fun hc => ?_)
   | ((with_reducible first | refine t_kE (t_openE ?_) | refine t_kD (t_openD ?_) | refine t_kE ?_ | refine t_kD ?_ | refine t_gS ?_ | refine t_kL ?_ | refine t_kLF ?_ ?_ | refine t_region fun K => ?_ | refine t_cond fun A B => ?_ | refine t_draw (by kernel_rfl) fun K => ?_); (try (first | refine t_hideE fun KL => ?_ | refine t_hideD fun KL => ?_)); simp only [go_sem, geff, kp38, con40_f, con45_f, con46_f, con47_f, con48_f, con40_c, con45_c, con46_c, con47_c, con48_c, slK_sl, slK_cons, slK_emp, slK_nil, arrsOf_x, arrL_cons, arrL_nil, arrOf_agg, arrV_def', appV_def, aw1, aw2, aw3, aw4, aw5, aw6, Option.map_some, arr_eta])
   | ((with_reducible refine kp_skip ?_ ?_); rfl) | simp only [thenQ, blockQ, scopeQ, Nat.reduceEqDiff, reduceIte] | (with_reducible first | refine And.intro ?_ ?_ | intro vr))
  all_goals try (first | exact h1 _ (by assumption) | exact h2 _ (by assumption) | exact h3 _ (by assumption) | exact k1 | exact k2 | exact k3 | exact k1.1 | exact k1.2 | (show 3 ≤ 1000000; omega) | decide)
  all_goals try (first | (with_reducible assumption) | (intros; (try simp only [Bool.and_eq_true, Bool.or_eq_true, Bool.or_eq_false_iff, Bool.not_eq_true', Bool.not_eq_false', decide_eq_true_eq, decide_eq_false_iff_not, beq_iff_eq, beq_eq_false_iff_ne, bne_iff_ne, bne_eq_false_iff_eq, ne_eq, inI64, List.length_append] at *) <;> omega))
  all_goals ((first | refine end_retE ?_ | refine end_normE ?_); simp only [fin, go_sem])
  exact LeA.refl _
noncomputable def con38 : PCon Try.prog where
  f := 38
  c := fun
    | [] => some (True, .lit (.bool true))
    | _ => none
  ok := by
    intro args p r hc hp
    split at hc
    · cases hc; exact awake21_pc
    · cases hc
  fk := fk38
theorem con38_f : con38.f = 38 := rfl
theorem con38_c  : con38.c [] = some (True, .lit (.bool true)) := rfl
end Go.Proofs.Ytjlcbojpiieafaa

/- Small arrays; numbers as arguments. -/
namespace Go.Proofs.Ytjlcbojpiieafaa
open Go Go.Fw
set_option maxRecDepth 20000

theorem fewA_ok {a : Arr} {n : Int} (h : fewA a n = true) (hn : n ≤ 1000000) : okA a ∧ (a.e.size : Int) ≤ 20 ∧ (a.x.length : Int) ≤ n := by
  unfold fewA at h
  simp only [Bool.and_eq_true, decide_eq_true_eq] at h
  exact ⟨⟨by omega, by omega⟩, h.1, h.2.2⟩
theorem fewM_ok {l : List Arr} (h : fewM l = true) : l.length ≤ 5 ∧ ∀ a ∈ l, okA a := by
  unfold fewM at h
  rw [Bool.and_eq_true, List.all_eq_true, decide_eq_true_eq] at h
  exact ⟨by omega, fun a ha => (fewA_ok (h.1 a ha) (by omega)).1⟩
theorem dself' {α : Type} [DecidableEq α] (a : α) : decide (a = a) = true := decide_eq_true rfl
theorem dimsI_len (op : ByteArray) (ns : List Int) (num : Int) (ds : List (List Int)) : (dimsI op ns num ds).1.length ≤ 1000000 := by
  unfold dimsI
  split
  · simp
  split
  · simp
  split
  · simp
  unfold dimsOf
  split
  · simp
  split
  · simp
  · rename_i h
    have := (sizeS_ok (d := _) (n := (sizeS _).1) (Prod.ext rfl (by simpa using h))).1
    simp only; omega
def gd3 (op : ByteArray) (ns : List Int) (l : List Arr) : Bool := (decide ((op.size : Int) > 20) || decide ((ns.length : Int) > 3)) || !fewM l
theorem ft59 : fieldTs Try.prog 59 = [23, 3] := by kernel_rfl
theorem shv_nums {x : AV} (h : ShV Try.prog 59 x) : ∃ (ns : List Int) (num : Int), x = .agg [.sl false 1 (ints .i64 ns), .lit (.int .i64 num)] ∧ (∀ n ∈ ns, inI64 n) ∧ inI64 num ∧ ns.length ≤ maxLen := by
  obtain ⟨c, rfl, hc⟩ := shv_agg ag59 h
  obtain ⟨p, q, rfl, hp, hq⟩ := sh_two ft59 hc
  obtain ⟨d, rfl, hd, hd'⟩ := sh_ints u23 u3 sz3 hp
  obtain ⟨n, rfl, hn⟩ := sh_int u3 hq
  exact ⟨d, n, rfl, fun m hm => wf_i64 (hd' m hm), wf_i64 hn, hd⟩
end Go.Proofs.Ytjlcbojpiieafaa
