/- The small functions of the laws on structure. -/
import Derived.Test.YtjlcbojpiieafaaSB

set_option linter.all false

namespace Go.Proofs.Ytjlcbojpiieafaa
open Go Go.Fw
set_option maxRecDepth 20000

def listA (l : List Int) : Arr := ⟨sInt, [(l.length : Int)], l⟩
def scalA (n : Int) : Arr := ⟨sInt, [], [n]⟩
theorem arr_of {e : ByteArray} {x y : AV} {a : Arr} {d w : List Int} (hx : slK .i64 x = some d) (hy : slK .i64 y = some w) (h : a = ⟨e, d, w⟩) : LeA (.agg [.lit (.string e), x, y]) (arrV a) := by
  subst h; exact LeA.agg ⟨LeA.refl _, slK_le hx, slK_le hy, trivial⟩
theorem list_pc {l : List Int} : PC Try.prog 45 [.sl false 1 (ints .i64 l)] (arrV (listA l)) := by
  refine pc_ofR F1_ok mixed (kp45) (rs := [.cell 2 33]) Try.func45 rfl (by kernel_rfl) (by kernel_rfl) (Nat.le_of_ble_eq_true rfl) ?_
  simp only [initF_cons, initF_nil, Nat.reduceAdd]
  refine t_name fun KF => ?_
  unfold F1
  repeat' (first
   | (with_reducible first | refine t_seq fun K => ?_ | refine t_block ?_ | refine t_scope ?_ | refine t_label ?_ | refine t_skip ?_ | refine t_exit ?_ | refine t_ret ?_ | refine t_k ?_ | refine t_gF ?_ | exact kp_nil | exact Kp.refl _ | exact kp_to | refine kp_cons ?_ | refine kp_arr ?_ | refine kp_app ?_ | refine t_p ?_ | refine t_br (fun hc => ?_) fun hc => ?_)
   | ((with_reducible first | refine t_kE (t_openE ?_) | refine t_kD (t_openD ?_) | refine t_kE ?_ | refine t_kD ?_ | refine t_gS ?_ | refine t_kL ?_ | refine t_kLF ?_ ?_ | refine t_region fun K => ?_ | refine t_cond fun A B => ?_ | refine t_draw (by kernel_rfl) fun K => ?_); (try (first | refine t_hideE fun KL => ?_ | refine t_hideD fun KL => ?_)); simp only [go_sem, geff, kp45])
   | ((with_reducible refine kp_skip ?_ ?_); rfl) | simp only [thenQ, blockQ, scopeQ, Nat.reduceEqDiff, reduceIte] | (with_reducible first | refine And.intro ?_ ?_ | intro vr))
  all_goals try (first | (with_reducible assumption) | (intros; (try simp only [Bool.and_eq_true, Bool.or_eq_true, Bool.or_eq_false_iff, Bool.not_eq_true', Bool.not_eq_false', decide_eq_true_eq, decide_eq_false_iff_not, beq_iff_eq, beq_eq_false_iff_ne, bne_iff_ne, bne_eq_false_iff_eq, ne_eq, inI64, List.length_append] at *) <;> omega))
  all_goals ((first | refine end_retE ?_ | refine end_normE ?_); simp only [fin, go_sem])
  exact arr_of (by first | rfl | exact slK_sl) slK_sl rfl
noncomputable def con45 : PCon Try.prog where
  f := 45
  c := fun
    | [xl] => match slK .i64 xl with | some l => some (True, arrV (listA l)) | _ => none
    | _ => none
  ok := by
    intro args p r hc hp
    split at hc
    · split at hc
      · rename_i hl
        cases hc
        exact PC.weak list_pc ⟨slK_le hl, trivial⟩
      · cases hc
    · cases hc
  fk := fk45
theorem con45_f : con45.f = 45 := rfl
theorem con45_c {xl : AV} : con45.c [xl] = match slK .i64 xl with | some l => some (True, arrV (listA l)) | _ => none := rfl
theorem scal_pc {n : Int} : PC Try.prog 48 [.lit (.int .i64 n)] (arrV (scalA n)) := by
  refine pc_ofR F1_ok mixed (kp48) (rs := [.cell 2 33]) Try.func48 rfl (by kernel_rfl) (by kernel_rfl) (Nat.le_of_ble_eq_true rfl) ?_
  simp only [initF_cons, initF_nil, Nat.reduceAdd]
  refine t_name fun KF => ?_
  unfold F1
  repeat' (first
   | (with_reducible first | refine t_seq fun K => ?_ | refine t_block ?_ | refine t_scope ?_ | refine t_label ?_ | refine t_skip ?_ | refine t_exit ?_ | refine t_ret ?_ | refine t_k ?_ | refine t_gF ?_ | exact kp_nil | exact Kp.refl _ | exact kp_to | refine kp_cons ?_ | refine kp_arr ?_ | refine kp_app ?_ | refine t_p ?_ | refine t_br (fun hc => ?_) fun hc => ?_)
   | ((with_reducible first | refine t_kE (t_openE ?_) | refine t_kD (t_openD ?_) | refine t_kE ?_ | refine t_kD ?_ | refine t_gS ?_ | refine t_kL ?_ | refine t_kLF ?_ ?_ | refine t_region fun K => ?_ | refine t_cond fun A B => ?_ | refine t_draw (by kernel_rfl) fun K => ?_); (try (first | refine t_hideE fun KL => ?_ | refine t_hideD fun KL => ?_)); simp only [go_sem, geff, kp48])
   | ((with_reducible refine kp_skip ?_ ?_); rfl) | simp only [thenQ, blockQ, scopeQ, Nat.reduceEqDiff, reduceIte] | (with_reducible first | refine And.intro ?_ ?_ | intro vr))
  all_goals try (first | (with_reducible assumption) | (intros; (try simp only [Bool.and_eq_true, Bool.or_eq_true, Bool.or_eq_false_iff, Bool.not_eq_true', Bool.not_eq_false', decide_eq_true_eq, decide_eq_false_iff_not, beq_iff_eq, beq_eq_false_iff_ne, bne_iff_ne, bne_eq_false_iff_eq, ne_eq, inI64, List.length_append] at *) <;> omega))
  all_goals ((first | refine end_retE ?_ | refine end_normE ?_); simp only [fin, go_sem])
  exact arr_of (by first | rfl | exact slK_sl) (by first | rfl | exact slK_sl) rfl
noncomputable def con48 : PCon Try.prog where
  f := 48
  c := fun
    | [.lit (.int .i64 n)] => some (True, arrV (scalA n))
    | _ => none
  ok := by
    intro args p r hc hp
    split at hc
    · cases hc; exact scal_pc
    · cases hc
  fk := fk48
theorem con48_f : con48.f = 48 := rfl
theorem con48_c {n : Int} : con48.c [.lit (.int .i64 n)] = some (True, arrV (scalA n)) := rfl
def sameA (a b : Arr) : Bool := (ofE a == 0) && eqA a b
noncomputable def L1 : Env := envJ (P := Try.prog) jk2 zer (fun _ => false) (fun _ => false) [con24, con36] []
theorem L1_ok : EnvOk Try.prog L1 := envJOk zer_ok
theorem same2_pc {a b : Arr} (ha : okA a) : PC Try.prog 47 [arrV a, arrV b] (.lit (.bool (sameA a b))) := by
  have h1 := ha.1
  have h2 := ha.2
  unfold sameA
  cases hv : (ofE a == 0) with
  | true =>
    refine pc_ofR L1_ok mixed (kp47) (rs := [.tmp 4]) Try.func47 rfl (by kernel_rfl) (by kernel_rfl) (Nat.le_of_ble_eq_true rfl) ?_
    simp only [initF_cons, initF_nil, Nat.reduceAdd]
    refine t_name fun KF => ?_
    unfold L1
    repeat' (first
     | (with_reducible first | refine t_seq fun K => ?_ | refine t_block ?_ | refine t_scope ?_ | refine t_label ?_ | refine t_skip ?_ | refine t_exit ?_ | refine t_ret ?_ | refine t_k ?_ | refine t_gF ?_ | exact kp_nil | exact Kp.refl _ | exact kp_to | refine kp_cons ?_ | refine kp_arr ?_ | refine kp_app ?_ | refine t_p ?_ | refine t_br (fun hc => ?_) fun hc => ?_)
     | ((with_reducible first | refine t_kE (t_openE ?_) | refine t_kD (t_openD ?_) | refine t_kE ?_ | refine t_kD ?_ | refine t_gS ?_ | refine t_kL ?_ | refine t_kLF ?_ ?_ | refine t_region fun K => ?_ | refine t_cond fun A B => ?_ | refine t_draw (by kernel_rfl) fun K => ?_); (try (first | refine t_hideE fun KL => ?_ | refine t_hideD fun KL => ?_)); simp only [go_sem, geff, kp47, con24_f, con36_f, con24_c, con36_c, arrV_def', arrOf_agg, slK_sl, hv])
     | ((with_reducible refine kp_skip ?_ ?_); rfl) | simp only [thenQ, blockQ, scopeQ, Nat.reduceEqDiff, reduceIte] | (with_reducible first | refine And.intro ?_ ?_ | intro vr))
    all_goals try exact ha
    all_goals try (first | (with_reducible assumption) | (intros; (try simp only [Bool.and_eq_true, Bool.or_eq_true, Bool.or_eq_false_iff, Bool.not_eq_true', Bool.not_eq_false', decide_eq_true_eq, decide_eq_false_iff_not, beq_iff_eq, beq_eq_false_iff_ne, bne_iff_ne, bne_eq_false_iff_eq, ne_eq, inI64, List.length_append] at *) <;> omega))
    all_goals ((first | refine end_retE ?_ | refine end_normE ?_); simp only [fin, go_sem])
    exact LeA.refl _
  | false =>
    refine pc_ofR L1_ok mixed (kp47) (rs := [.tmp 4]) Try.func47 rfl (by kernel_rfl) (by kernel_rfl) (Nat.le_of_ble_eq_true rfl) ?_
    simp only [initF_cons, initF_nil, Nat.reduceAdd]
    refine t_name fun KF => ?_
    unfold L1
    repeat' (first
     | (with_reducible first | refine t_seq fun K => ?_ | refine t_block ?_ | refine t_scope ?_ | refine t_label ?_ | refine t_skip ?_ | refine t_exit ?_ | refine t_ret ?_ | refine t_k ?_ | refine t_gF ?_ | exact kp_nil | exact Kp.refl _ | exact kp_to | refine kp_cons ?_ | refine kp_arr ?_ | refine kp_app ?_ | refine t_p ?_ | refine t_br (fun hc => ?_) fun hc => ?_)
     | ((with_reducible first | refine t_kE (t_openE ?_) | refine t_kD (t_openD ?_) | refine t_kE ?_ | refine t_kD ?_ | refine t_gS ?_ | refine t_kL ?_ | refine t_kLF ?_ ?_ | refine t_region fun K => ?_ | refine t_cond fun A B => ?_ | refine t_draw (by kernel_rfl) fun K => ?_); (try (first | refine t_hideE fun KL => ?_ | refine t_hideD fun KL => ?_)); simp only [go_sem, geff, kp47, con24_f, con36_f, con24_c, con36_c, arrV_def', arrOf_agg, slK_sl, hv])
     | ((with_reducible refine kp_skip ?_ ?_); rfl) | simp only [thenQ, blockQ, scopeQ, Nat.reduceEqDiff, reduceIte] | (with_reducible first | refine And.intro ?_ ?_ | intro vr))
    all_goals try exact ha
    all_goals try (first | (with_reducible assumption) | (intros; (try simp only [Bool.and_eq_true, Bool.or_eq_true, Bool.or_eq_false_iff, Bool.not_eq_true', Bool.not_eq_false', decide_eq_true_eq, decide_eq_false_iff_not, beq_iff_eq, beq_eq_false_iff_ne, bne_iff_ne, bne_eq_false_iff_eq, ne_eq, inI64, List.length_append] at *) <;> omega))
    all_goals ((first | refine end_retE ?_ | refine end_normE ?_); simp only [fin, go_sem])
    exact LeA.refl _
noncomputable def con47 : PCon Try.prog where
  f := 47
  c := fun
    | [xa, xb] => match arrOf xa, arrOf xb with | some a, some b => some (okA a, .lit (.bool (sameA a b))) | _, _ => none
    | _ => none
  ok := by
    intro args p r hc hp
    split at hc
    · split at hc
      · rename_i ha hb
        cases hc
        exact PC.weak (same2_pc hp) ⟨arrOf_le ha, arrOf_le hb, trivial⟩
      · cases hc
    · cases hc
  fk := fk47
theorem con47_f : con47.f = 47 := rfl
theorem con47_c {xa : AV} {xb : AV} : con47.c [xa, xb] = match arrOf xa, arrOf xb with | some a, some b => some (okA a, .lit (.bool (sameA a b))) | _, _ => none := rfl
def noneS (op : ByteArray) : ByteArray := ⟨#[110, 111, 110, 101, 32]⟩ ++ op
def doT (op : ByteArray) (r : Arr × Bool × Int) : Arr := if r.2.2 ≠ 0 then ⟨noneS op, [], []⟩ else r.1
def doA (op : ByteArray) (k : Int) (cs : List Arr) : Arr := doT op (applyS op (if sizedS op = true then [k] else []) 0 cs)
noncomputable def L2 : Env := envJ (P := Try.prog) jk2 zer (fun _ => false) (fun _ => false) [con40, con84] []
theorem L2_ok : EnvOk Try.prog L2 := envJOk zer_ok
set_option maxHeartbeats 2000000 in
theorem do_pc {op : ByteArray} {k : Int} {cs : List Arr} (hz : op.size ≤ 1000) (hn : cs.length ≤ 4096) (ho : ∀ a ∈ cs, okA a) : PC Try.prog 46 [.lit (.string op), .lit (.int .i64 k), .sl false 3 (arrs cs)] (arrV (doA op k cs)) := by
  generalize hR : doA op k cs = R
  unfold doA at hR
  cases hs : sizedS op with
  | true =>
    rw [hs, if_pos rfl] at hR
    generalize hA : applyS op [k] 0 cs = A at hR
    unfold doT at hR
    refine pc_ofR L2_ok mixed (kp46) (rs := [.cell 6 33]) Try.func46 rfl (by kernel_rfl) (by kernel_rfl) (Nat.le_of_ble_eq_true rfl) ?_
    simp only [initF_cons, initF_nil, Nat.reduceAdd]
    refine t_name fun KF => ?_
    unfold L2
    repeat' (first
     | (with_reducible first | refine t_seq fun K => ?_ | refine t_block ?_ | refine t_scope ?_ | refine t_label ?_ | refine t_skip ?_ | refine t_exit ?_ | refine t_ret ?_ | refine t_k ?_ | refine t_gF ?_ | exact kp_nil | exact Kp.refl _ | exact kp_to | refine kp_cons ?_ | refine kp_arr ?_ | refine kp_app ?_ | refine t_p ?_ | refine t_br (fun hc => ?_) fun hc => ?_)
     | ((with_reducible first | refine t_kE (t_openE ?_) | refine t_kD (t_openD ?_) | refine t_kE ?_ | refine t_kD ?_ | refine t_gS ?_ | refine t_kL ?_ | refine t_kLF ?_ ?_ | refine t_region fun K => ?_ | refine t_cond fun A B => ?_ | refine t_draw (by kernel_rfl) fun K => ?_); (try (first | refine t_hideE fun KL => ?_ | refine t_hideD fun KL => ?_)); simp only [go_sem, geff, kp46, con40_f, con84_f, con40_c, con84_c, slK_cons, slK_emp, arrsOf_sl, appV_def, arrV_def', hs, hA])
     | ((with_reducible refine kp_skip ?_ ?_); rfl) | simp only [thenQ, blockQ, scopeQ, Nat.reduceEqDiff, reduceIte] | (with_reducible first | refine And.intro ?_ ?_ | intro vr))
    all_goals try exact ho _ (by assumption)
    all_goals try (show 5 + op.size ≤ 9223372036854775807; omega)
    all_goals try (first | (with_reducible assumption) | (intros; (try simp only [Bool.and_eq_true, Bool.or_eq_true, Bool.or_eq_false_iff, Bool.not_eq_true', Bool.not_eq_false', decide_eq_true_eq, decide_eq_false_iff_not, beq_iff_eq, beq_eq_false_iff_ne, bne_iff_ne, bne_eq_false_iff_eq, ne_eq, inI64, List.length_append] at *) <;> omega))
    all_goals ((first | refine end_retE ?_ | refine end_normE ?_); simp only [fin, go_sem])
    · rw [if_pos (by simpa using hc)] at hR
      exact arr_of (by first | rfl | exact slK_sl) (by first | rfl | exact slK_sl) hR.symm
    · rw [if_neg (by simpa using hc)] at hR
      exact arr_of slK_sl slK_sl hR.symm
  | false =>
    rw [hs, if_neg (by simp)] at hR
    generalize hA : applyS op [] 0 cs = A at hR
    unfold doT at hR
    refine pc_ofR L2_ok mixed (kp46) (rs := [.cell 6 33]) Try.func46 rfl (by kernel_rfl) (by kernel_rfl) (Nat.le_of_ble_eq_true rfl) ?_
    simp only [initF_cons, initF_nil, Nat.reduceAdd]
    refine t_name fun KF => ?_
    unfold L2
    repeat' (first
     | (with_reducible first | refine t_seq fun K => ?_ | refine t_block ?_ | refine t_scope ?_ | refine t_label ?_ | refine t_skip ?_ | refine t_exit ?_ | refine t_ret ?_ | refine t_k ?_ | refine t_gF ?_ | exact kp_nil | exact Kp.refl _ | exact kp_to | refine kp_cons ?_ | refine kp_arr ?_ | refine kp_app ?_ | refine t_p ?_ | refine t_br (fun hc => ?_) fun hc => ?_)
     | ((with_reducible first | refine t_kE (t_openE ?_) | refine t_kD (t_openD ?_) | refine t_kE ?_ | refine t_kD ?_ | refine t_gS ?_ | refine t_kL ?_ | refine t_kLF ?_ ?_ | refine t_region fun K => ?_ | refine t_cond fun A B => ?_ | refine t_draw (by kernel_rfl) fun K => ?_); (try (first | refine t_hideE fun KL => ?_ | refine t_hideD fun KL => ?_)); simp only [go_sem, geff, kp46, con40_f, con84_f, con40_c, con84_c, slK_nil, slK_cons, slK_emp, arrsOf_sl, appV_def, arrV_def', hs, hA])
     | ((with_reducible refine kp_skip ?_ ?_); rfl) | simp only [thenQ, blockQ, scopeQ, Nat.reduceEqDiff, reduceIte] | (with_reducible first | refine And.intro ?_ ?_ | intro vr))
    all_goals try exact ho _ (by assumption)
    all_goals try (show 5 + op.size ≤ 9223372036854775807; omega)
    all_goals try (first | (with_reducible assumption) | (intros; (try simp only [Bool.and_eq_true, Bool.or_eq_true, Bool.or_eq_false_iff, Bool.not_eq_true', Bool.not_eq_false', decide_eq_true_eq, decide_eq_false_iff_not, beq_iff_eq, beq_eq_false_iff_ne, bne_iff_ne, bne_eq_false_iff_eq, ne_eq, inI64, List.length_append] at *) <;> omega))
    all_goals ((first | refine end_retE ?_ | refine end_normE ?_); simp only [fin, go_sem])
    · rw [if_pos (by simpa using hc)] at hR
      exact arr_of (by first | rfl | exact slK_sl) (by first | rfl | exact slK_sl) hR.symm
    · rw [if_neg (by simpa using hc)] at hR
      exact arr_of slK_sl slK_sl hR.symm
noncomputable def con46 : PCon Try.prog where
  f := 46
  c := fun
    | [.lit (.string op), .lit (.int .i64 k), xcs] => match arrsOf xcs with | some cs => some (op.size ≤ 1000 ∧ cs.length ≤ 4096 ∧ (∀ a ∈ cs, okA a), arrV (doA op k cs)) | _ => none
    | _ => none
  ok := by
    intro args p r hc hp
    split at hc
    · split at hc
      · rename_i hcs
        cases hc
        exact PC.weak ((fun hp : _ ∧ _ ∧ _ => do_pc hp.1 hp.2.1 hp.2.2) hp) ⟨LeA.refl _, LeA.refl _, arrsOf_le hcs, trivial⟩
      · cases hc
    · cases hc
  fk := fk46
theorem con46_f : con46.f = 46 := rfl
theorem con46_c {op : ByteArray} {k : Int} {xcs : AV} : con46.c [.lit (.string op), .lit (.int .i64 k), xcs] = match arrsOf xcs with | some cs => some (op.size ≤ 1000 ∧ cs.length ≤ 4096 ∧ (∀ a ∈ cs, okA a), arrV (doA op k cs)) | _ => none := rfl
end Go.Proofs.Ytjlcbojpiieafaa

/- The examples. -/
namespace Go.Proofs.Ytjlcbojpiieafaa
open Go Go.Fw
set_option maxRecDepth 20000

theorem aw1 : applyS ⟨#[105, 110, 100, 101, 120]⟩ [] 0 [listA [5, 6, 7], scalA 3] = (scalA 0, true, 0) := by kernel_rfl
theorem aw2 : doA ⟨#[119, 105, 110, 100, 111, 119, 115]⟩ 2 [listA [5, 6, 7]] = ⟨sInt, [2, 2], [5, 6, 6, 7]⟩ := by kernel_rfl
theorem aw3 : doA ⟨#[117, 112, 100, 97, 116, 101]⟩ 0 [listA [5, 6, 7], scalA 1, scalA 9] = listA [5, 9, 7] := by kernel_rfl
theorem aw4 : sameA ⟨sInt, [2, 2], [5, 6, 6, 7]⟩ ⟨⟨#[105, 110, 116]⟩, [2, 2], [5, 6, 6, 7]⟩ = true := by kernel_rfl
theorem aw5 : sameA (scalA 0) (scalA 0) = true := by kernel_rfl
theorem aw6 : sameA (listA [5, 9, 7]) (listA [5, 9, 7]) = true := by kernel_rfl
theorem arr_eta (a : Arr) : (⟨a.e, a.d, a.x⟩ : Arr) = a := rfl
theorem okl (l : List Int) (h : l.length ≤ 1000000) : okA (listA l) := ⟨by simp [listA], h⟩
theorem oks (n : Int) : okA (scalA n) := ⟨by simp [scalA], by simp [scalA]⟩
theorem okc (a : Arr) (cs : List Arr) (ha : okA a) (h : ∀ b ∈ cs, okA b) : ∀ b ∈ a :: cs, okA b := fun b hb => by
  rcases List.mem_cons.1 hb with rfl | hb
  · exact ha
  · exact h b hb
theorem okn : ∀ b ∈ ([] : List Arr), okA b := fun b hb => by cases hb
noncomputable def N1 : Env := envJ (P := Try.prog) jk2 zer (fun _ => false) (fun _ => false) [con40, con45, con46, con47, con48] []
theorem N1_ok : EnvOk Try.prog N1 := envJOk zer_ok
set_option maxHeartbeats 4000000 in
theorem awake21_pc : PC Try.prog 38 [] (.lit (.bool true)) := by
  have h1 := okc _ _ (okl [5, 6, 7] (by simp)) (okc _ _ (oks 3) okn)
  have h2 := okc _ _ (okl [5, 6, 7] (by simp)) okn
  have h3 := okc _ _ (okl [5, 6, 7] (by simp)) (okc _ _ (oks 1) (okc _ _ (oks 9) okn))
  have k1 : okA ⟨sInt, [2, 2], [5, 6, 6, 7]⟩ := ⟨by simp, by simp⟩
  have k2 := oks 0
  have k3 := okl [5, 9, 7] (by simp)
  refine pc_ofR N1_ok mixed (kp38) (rs := [.tmp 0]) Try.func38 rfl (by kernel_rfl) (by kernel_rfl) (Nat.le_of_ble_eq_true rfl) ?_
  simp only [initF_cons, initF_nil, Nat.reduceAdd]
  refine t_name fun KF => ?_
  unfold N1
  repeat' (first
   | (with_reducible first | refine t_seq fun K => ?_ | refine t_block ?_ | refine t_scope ?_ | refine t_label ?_ | refine t_skip ?_ | refine t_exit ?_ | refine t_ret ?_ | refine t_k ?_ | refine t_gF ?_ | exact kp_nil | exact Kp.refl _ | exact kp_to | refine kp_cons ?_ | refine kp_arr ?_ | refine kp_app ?_ | refine t_p ?_ | refine t_br (fun hc => ?_) fun hc => ?_)
   | ((with_reducible first | refine t_kE (t_openE ?_) | refine t_kD (t_openD ?_) | refine t_kE ?_ | refine t_kD ?_ | refine t_gS ?_ | refine t_kL ?_ | refine t_kLF ?_ ?_ | refine t_region fun K => ?_ | refine t_cond fun A B => ?_ | refine t_draw (by kernel_rfl) fun K => ?_); (try (first | refine t_hideE fun KL => ?_ | refine t_hideD fun KL => ?_)); simp only [go_sem, geff, kp38, con40_f, con45_f, con46_f, con47_f, con48_f, con40_c, con45_c, con46_c, con47_c, con48_c, slK_sl, slK_cons, slK_emp, slK_nil, arrsOf_x, arrL_cons, arrL_nil, arrOf_agg, arrV_def', appV_def, aw1, aw2, aw3, aw4, aw5, aw6, Option.map_some, arr_eta])
   | ((with_reducible refine kp_skip ?_ ?_); rfl) | simp only [thenQ, blockQ, scopeQ, Nat.reduceEqDiff, reduceIte] | (with_reducible first | refine And.intro ?_ ?_ | intro vr))
  all_goals try (first | exact h1 _ (by assumption) | exact h2 _ (by assumption) | exact h3 _ (by assumption) | exact k1 | exact k2 | exact k3 | exact k1.1 | exact k1.2 | (show 3 ≤ 1000000; omega) | decide)
  all_goals try (first | (with_reducible assumption) | (intros; (try simp only [Bool.and_eq_true, Bool.or_eq_true, Bool.or_eq_false_iff, Bool.not_eq_true', Bool.not_eq_false', decide_eq_true_eq, decide_eq_false_iff_not, beq_iff_eq, beq_eq_false_iff_ne, bne_iff_ne, bne_eq_false_iff_eq, ne_eq, inI64, List.length_append] at *) <;> omega))
  all_goals ((first | refine end_retE ?_ | refine end_normE ?_); simp only [fin, go_sem])
  exact LeA.refl _
noncomputable def con38 : PCon Try.prog where
  f := 38
  c := fun
    | [] => some (True, .lit (.bool true))
    | _ => none
  ok := by
    intro args p r hc hp
    split at hc
    · cases hc; exact awake21_pc
    · cases hc
  fk := fk38
theorem con38_f : con38.f = 38 := rfl
theorem con38_c  : con38.c [] = some (True, .lit (.bool true)) := rfl
end Go.Proofs.Ytjlcbojpiieafaa

/- Small arrays; numbers as arguments. -/
namespace Go.Proofs.Ytjlcbojpiieafaa
open Go Go.Fw
set_option maxRecDepth 20000

end Go.Proofs.Ytjlcbojpiieafaa

/- Lists whose elements are int elements. -/
namespace Go.Proofs.Ytjlcbojpiieafaa
open Go Go.Fw
set_option maxRecDepth 20000

def listB (l : List Int) : Bool := !decide ((l.length : Int) > 40) && (ofE (listA l) == 0)
noncomputable def M1 : Env := envJ (P := Try.prog) jk2 zer (fun _ => false) (fun _ => false) [con36, con45] []
theorem M1_ok : EnvOk Try.prog M1 := envJOk zer_ok
set_option maxHeartbeats 2000000 in
theorem lists_pc {ls : List (List Int)} (hm : ls.length ≤ 1000000) : PC Try.prog 44 [.sl false 1 (ils ls)] (.lit (.bool (ls.all listB))) := by
  generalize hB : ls.all listB = Bb
  refine pc_ofR M1_ok mixed (kp44) (rs := [.tmp 2]) Try.func44 rfl (by kernel_rfl) (by kernel_rfl) (Nat.le_of_ble_eq_true rfl) ?_
  simp only [initF_cons, initF_nil, Nat.reduceAdd]
  refine t_name fun KF => ?_
  unfold M1
  repeat' (first
   | (with_reducible first | refine t_seq fun K => ?_ | refine t_block ?_ | refine t_scope ?_ | refine t_label ?_ | refine t_skip ?_ | refine t_exit ?_ | refine t_ret ?_ | refine t_k ?_ | refine t_gF ?_ | exact kp_nil | exact Kp.refl _ | exact kp_to | refine kp_cons ?_ | refine kp_arr ?_ | refine kp_app ?_ | refine t_p ?_ | refine t_br (fun hc => ?_) fun hc => ?_)
   | ((with_reducible first | refine t_kE (t_openE ?_) | refine t_kD (t_openD ?_) | refine t_kE ?_ | refine t_kD ?_ | refine t_gS ?_ | refine t_kL ?_ | refine t_kLF ?_ ?_ | refine t_region fun K => ?_ | refine t_cond fun A B => ?_ | refine t_draw (by kernel_rfl) fun K => ?_); (try (first | refine t_hideE fun KL => ?_ | refine t_hideD fun KL => ?_)); simp only [go_sem, geff, kp44, con36_f, con45_f, ils_length])
   | ((with_reducible refine kp_skip ?_ ?_); rfl) | simp only [thenQ, blockQ, scopeQ, Nat.reduceEqDiff, reduceIte] | (with_reducible first | refine And.intro ?_ ?_ | intro vr))
  all_goals try (first | (with_reducible assumption) | (intros; (try simp only [Bool.and_eq_true, Bool.or_eq_true, Bool.or_eq_false_iff, Bool.not_eq_true', Bool.not_eq_false', decide_eq_true_eq, decide_eq_false_iff_not, beq_iff_eq, beq_eq_false_iff_ne, bne_iff_ne, bne_eq_false_iff_eq, ne_eq, inI64, List.length_append] at *) <;> omega))
  refine t_loopF (ι := { i : Nat // i ≤ ls.length ∧ (ls.drop i).all listB = Bb }) (fun i => [(7, .lit (.int .i64 i.1))]) (fun i => []) (fun i => ls.length - i.1) ⟨0, by omega, hB⟩ ?_ ?_
  · simp only [updL_nil, updL_cons, delF_top, delF_upd, Nat.reduceEqDiff, reduceIte]
    refine Le.frameS (by first | rfl | (simp only [go_sem]; try rfl)) ?_
    repeat' (first | exact leF_top _ | exact (fun _ => LeR.refl _) | (with_reducible refine leF_sl ?_ ?_) | (refine leF_upd ?_ ?_))
    all_goals (first | exact LeR.top _ | exact LeR.refl _ | (refine LeR.of_eq ?_; (try simp only [go_sem]); try rfl) | ((try simp only [go_sem]); try rfl))
  rintro ⟨i, hi, hF⟩ K0
  rcases Nat.lt_or_ge i ls.length with hc | hc
  · rw [drop_getD [] hc, List.all_cons] at hF
    have g3 : decide ((i : Int) < (ls.length : Int)) = true := decide_eq_true (by omega)
    cases h4 : decide (((ls.getD i []).length : Int) > 40) with
    | true =>
      rw [show listB (ls.getD i []) = false by unfold listB; rw [h4]; rfl, Bool.false_and] at hF
      repeat' (first
       | (with_reducible first | refine t_seq fun K => ?_ | refine t_block ?_ | refine t_scope ?_ | refine t_label ?_ | refine t_skip ?_ | refine t_exit ?_ | refine t_ret ?_ | refine t_k ?_ | refine t_gF ?_ | exact kp_nil | exact Kp.refl _ | exact kp_to | refine kp_cons ?_ | refine kp_arr ?_ | refine kp_app ?_ | refine t_p ?_ | refine t_br (fun hc => ?_) fun hc => ?_)
       | ((with_reducible first | refine t_kE (t_openE ?_) | refine t_kD (t_openD ?_) | refine t_kE ?_ | refine t_kD ?_ | refine t_gS ?_ | refine t_kL ?_ | refine t_kLF ?_ ?_ | refine t_region fun K => ?_ | refine t_cond fun A B => ?_ | refine t_draw (by kernel_rfl) fun K => ?_); (try (first | refine t_hideE fun KL => ?_ | refine t_hideD fun KL => ?_)); simp only [go_sem, geff, kp44, g3, h4, Int.toNat_natCast, con36_f, con45_f, con36_c, con45_c, ils_length, slK_sl])
       | ((with_reducible refine kp_skip ?_ ?_); rfl) | simp only [thenQ, blockQ, scopeQ, Nat.reduceEqDiff, reduceIte] | (with_reducible first | refine And.intro ?_ ?_ | intro vr))
      all_goals try (first | (with_reducible assumption) | (intros; (try simp only [Bool.and_eq_true, Bool.or_eq_true, Bool.or_eq_false_iff, Bool.not_eq_true', Bool.not_eq_false', decide_eq_true_eq, decide_eq_false_iff_not, beq_iff_eq, beq_eq_false_iff_ne, bne_iff_ne, bne_eq_false_iff_eq, ne_eq, inI64, List.length_append] at *) <;> omega))
      all_goals ((first | refine end_retE ?_ | refine end_normE ?_); simp only [fin, go_sem])
      rw [← hF]; exact LeA.refl _
    | false =>
      have h5 := of_decide_eq_false h4
      cases hv : (ofE (listA (ls.getD i [])) == 0) with
      | true =>
        rw [show listB (ls.getD i []) = true by unfold listB; rw [h4, hv]; rfl, Bool.true_and] at hF
        repeat' (first
         | (with_reducible first | refine t_seq fun K => ?_ | refine t_block ?_ | refine t_scope ?_ | refine t_label ?_ | refine t_skip ?_ | refine t_exit ?_ | refine t_ret ?_ | refine t_k ?_ | refine t_gF ?_ | exact kp_nil | exact Kp.refl _ | exact kp_to | refine kp_cons ?_ | refine kp_arr ?_ | refine kp_app ?_ | refine t_p ?_ | refine t_br (fun hc => ?_) fun hc => ?_)
         | ((with_reducible first | refine t_kE (t_openE ?_) | refine t_kD (t_openD ?_) | refine t_kE ?_ | refine t_kD ?_ | refine t_gS ?_ | refine t_kL ?_ | refine t_kLF ?_ ?_ | refine t_region fun K => ?_ | refine t_cond fun A B => ?_ | refine t_draw (by kernel_rfl) fun K => ?_); (try (first | refine t_hideE fun KL => ?_ | refine t_hideD fun KL => ?_)); simp only [go_sem, geff, kp44, g3, h4, hv, Int.toNat_natCast, con36_f, con45_f, con36_c, con45_c, ils_length, slK_sl, arrV_def', arrOf_agg])
         | ((with_reducible refine kp_skip ?_ ?_); rfl) | simp only [thenQ, blockQ, scopeQ, Nat.reduceEqDiff, reduceIte] | (with_reducible first | refine And.intro ?_ ?_ | intro vr))
        all_goals try (simp only [listA, List.length_cons, List.length_nil]; omega)
        all_goals try (first | (with_reducible assumption) | (intros; (try simp only [Bool.and_eq_true, Bool.or_eq_true, Bool.or_eq_false_iff, Bool.not_eq_true', Bool.not_eq_false', decide_eq_true_eq, decide_eq_false_iff_not, beq_iff_eq, beq_eq_false_iff_ne, bne_iff_ne, bne_eq_false_iff_eq, ne_eq, inI64, List.length_append] at *) <;> omega))
        refine ⟨⟨i + 1, by omega, hF⟩, by first | (simp only; omega) | omega, ?_⟩
        simp only [updL_nil, updL_cons, delF_top, delF_upd, Nat.reduceEqDiff, reduceIte]
        refine Le.frameS (by first | rfl | (simp only [go_sem]; try rfl)) ?_
        repeat' (first | exact leF_top _ | exact (fun _ => LeR.refl _) | (with_reducible refine leF_sl ?_ ?_) | (refine leF_upd ?_ ?_))
        all_goals (first | exact LeR.top _ | exact LeR.refl _ | (refine LeR.of_eq ?_; (try simp only [go_sem]); try rfl) | ((try simp only [go_sem]); try rfl))
      | false =>
        rw [show listB (ls.getD i []) = false by unfold listB; rw [h4, hv]; rfl, Bool.false_and] at hF
        repeat' (first
         | (with_reducible first | refine t_seq fun K => ?_ | refine t_block ?_ | refine t_scope ?_ | refine t_label ?_ | refine t_skip ?_ | refine t_exit ?_ | refine t_ret ?_ | refine t_k ?_ | refine t_gF ?_ | exact kp_nil | exact Kp.refl _ | exact kp_to | refine kp_cons ?_ | refine kp_arr ?_ | refine kp_app ?_ | refine t_p ?_ | refine t_br (fun hc => ?_) fun hc => ?_)
         | ((with_reducible first | refine t_kE (t_openE ?_) | refine t_kD (t_openD ?_) | refine t_kE ?_ | refine t_kD ?_ | refine t_gS ?_ | refine t_kL ?_ | refine t_kLF ?_ ?_ | refine t_region fun K => ?_ | refine t_cond fun A B => ?_ | refine t_draw (by kernel_rfl) fun K => ?_); (try (first | refine t_hideE fun KL => ?_ | refine t_hideD fun KL => ?_)); simp only [go_sem, geff, kp44, g3, h4, hv, Int.toNat_natCast, con36_f, con45_f, con36_c, con45_c, ils_length, slK_sl, arrV_def', arrOf_agg])
         | ((with_reducible refine kp_skip ?_ ?_); rfl) | simp only [thenQ, blockQ, scopeQ, Nat.reduceEqDiff, reduceIte] | (with_reducible first | refine And.intro ?_ ?_ | intro vr))
        all_goals try (simp only [listA, List.length_cons, List.length_nil]; omega)
        all_goals try (first | (with_reducible assumption) | (intros; (try simp only [Bool.and_eq_true, Bool.or_eq_true, Bool.or_eq_false_iff, Bool.not_eq_true', Bool.not_eq_false', decide_eq_true_eq, decide_eq_false_iff_not, beq_iff_eq, beq_eq_false_iff_ne, bne_iff_ne, bne_eq_false_iff_eq, ne_eq, inI64, List.length_append] at *) <;> omega))
        all_goals ((first | refine end_retE ?_ | refine end_normE ?_); simp only [fin, go_sem])
        rw [← hF]; exact LeA.refl _
  · have hie : i = ls.length := by omega
    have g3 : decide ((ls.length : Int) < (ls.length : Int)) = false := decide_eq_false (by omega)
    rw [hie, List.drop_eq_nil_of_le (by omega), List.all_nil] at hF
    repeat' (first
     | (with_reducible first | refine t_seq fun K => ?_ | refine t_block ?_ | refine t_scope ?_ | refine t_label ?_ | refine t_skip ?_ | refine t_exit ?_ | refine t_ret ?_ | refine t_k ?_ | refine t_gF ?_ | exact kp_nil | exact Kp.refl _ | exact kp_to | refine kp_cons ?_ | refine kp_arr ?_ | refine kp_app ?_ | refine t_p ?_ | refine t_br (fun hc => ?_) fun hc => ?_)
     | ((with_reducible first | refine t_kE (t_openE ?_) | refine t_kD (t_openD ?_) | refine t_kE ?_ | refine t_kD ?_ | refine t_gS ?_ | refine t_kL ?_ | refine t_kLF ?_ ?_ | refine t_region fun K => ?_ | refine t_cond fun A B => ?_ | refine t_draw (by kernel_rfl) fun K => ?_); (try (first | refine t_hideE fun KL => ?_ | refine t_hideD fun KL => ?_)); simp only [go_sem, geff, kp44, hie, g3, Int.toNat_natCast, con36_f, con45_f, ils_length])
     | ((with_reducible refine kp_skip ?_ ?_); rfl) | simp only [thenQ, blockQ, scopeQ, Nat.reduceEqDiff, reduceIte] | (with_reducible first | refine And.intro ?_ ?_ | intro vr))
    all_goals try (first | (with_reducible assumption) | (intros; (try simp only [Bool.and_eq_true, Bool.or_eq_true, Bool.or_eq_false_iff, Bool.not_eq_true', Bool.not_eq_false', decide_eq_true_eq, decide_eq_false_iff_not, beq_iff_eq, beq_eq_false_iff_ne, bne_iff_ne, bne_eq_false_iff_eq, ne_eq, inI64, List.length_append] at *) <;> omega))
    all_goals ((first | refine end_retE ?_ | refine end_normE ?_); simp only [fin, go_sem])
    rw [← hF]; exact LeA.refl _
noncomputable def con44 : PCon Try.prog where
  f := 44
  c := fun
    | [xls] => match ilsOf xls with | some ls => some (ls.length ≤ 1000000, .lit (.bool (ls.all listB))) | _ => none
    | _ => none
  ok := by
    intro args p r hc hp
    split at hc
    · split at hc
      · rename_i hls
        cases hc
        exact PC.weak (lists_pc hp) ⟨ilsOf_le hls, trivial⟩
      · cases hc
    · cases hc
  fk := fk44
theorem con44_f : con44.f = 44 := rfl
theorem con44_c {xls : AV} : con44.c [xls] = match ilsOf xls with | some ls => some (ls.length ≤ 1000000, .lit (.bool (ls.all listB))) | _ => none := rfl
end Go.Proofs.Ytjlcbojpiieafaa

/- What Apply gives, from both sides. -/
namespace Go.Proofs.Ytjlcbojpiieafaa
open Go Go.Fw

theorem all_val {cs : List Arr} (h : ∀ a ∈ cs, ofE a = 0) : cs.all valA = true := by
  rw [List.all_eq_true]
  intro a ha
  unfold valA
  rw [h a ha]; rfl
theorem szErr_val : ∀ {cs : List Arr}, (∀ a ∈ cs, ofE a = 0) → szErr (cs.map Arr.d) = 0
  | [], _ => rfl
  | a :: t, h => by
    have h1 := (ofE_inv (h a (by simp))).2.1
    rw [List.map_cons, szErr, h1, if_neg (by simp)]
    exact szErr_val fun b hb => h b (by simp [hb])
theorem rk_rep : ∀ m : Nat, rkBad (List.replicate m []) (List.replicate m 0) = false
  | 0 => rfl
  | m + 1 => by rw [List.replicate_succ, List.replicate_succ, rkBad, if_neg (by simp), rk_rep m]
theorem maxI1 {m : Nat} (h : 1 ≤ m) : maxI (m : Int) 1 = m := by unfold maxI; rw [if_neg (by omega)]
theorem giv_fwd {op : ByteArray} {ns : List Int} {num : Int} {ds : List (List Int)} {d : List Int} (h : Shp op ns num ds d) : (givenS op ns.length num ds.length).2 = 0 := by
  cases h with
  | chunk c q h1 h2 h3 h4 => unfold givenS; rw [show findS n_chunk _ = (ents.getD 9 ent0, true) from rfl]; rw [if_neg (by simp), if_neg (by simp [ents, wantS]; intro _; rfl)]
  | pack m h1 h2 =>
    unfold givenS
    rw [show findS n_pack _ = (packE _, true) from rfl]
    rw [if_neg (by simp), if_neg]
    simp only [packE, wantS, List.length_replicate, maxI1 h1]
    simp
  | _ => rfl
theorem dim_fwd {op : ByteArray} {ns : List Int} {num : Int} {ds : List (List Int)} {d : List Int} (h : Shp op ns num ds d) (hz : szErr ds = 0) (hd : (sizeS d).2 = 0) : dimsI op ns num ds = (d, 0) := by
  have hg := giv_fwd h
  unfold dimsI
  rw [if_neg (by simpa using hg)]
  have fin : ∀ {e : Ent}, (givenS op ns.length num ds.length).1 = e → rkBad ds e.ranks = false → dimsS (e.dims.getD 0) (sizeK ns num) ds = (d, 0) →
      (if rkBad ds (givenS op ns.length num ds.length).1.ranks = true then (([] : List Int), (13 : Int)) else if szErr ds ≠ 0 then ([], szErr ds) else dimsOf (givenS op ns.length num ds.length).1 (sizeK ns num) ds) = (d, 0) := by
    intro e he h1 h2
    rw [he, if_neg (by rw [h1]; simp), if_neg (by simpa using hz)]
    unfold dimsOf
    rw [h2, if_neg (by simp), if_neg (by simpa using hd)]
  have g1 : ∀ {e : Ent}, findS op ds.length = (e, true) → (givenS op ns.length num ds.length).1 = e := by
    intro e he
    exact giv_e (given_ok (Prod.ext rfl hg : givenS op ns.length num ds.length = ((givenS op ns.length num ds.length).1, 0))).2.2.2.2.2 he
  have pk : ∀ {k n : Int}, 0 ≤ k → k ≤ n → partS k n = 0 := fun h1 h2 => by unfold partS; rw [if_neg (by omega)]
  cases h with
  | iota k hk => exact fin (g1 (e := ents.getD 0 ent0) rfl) rfl (by simp only [ents, List.getD_cons_zero, Option.getD_some, dimsS, sizeK]; simp [pk hk.1 (show k ≤ maxI k 0 by unfold maxI; split <;> omega)])
  | fill k hk => exact fin (g1 (e := ents.getD 1 ent0) rfl) rfl (by simp only [ents, List.getD_cons_zero, List.getD_cons_succ, Option.getD_some, dimsS, sizeK]; simp [pk hk.1 (show k ≤ maxI k 0 by unfold maxI; split <;> omega)])
  | take k n hk hn hkn => exact fin (g1 (e := ents.getD 2 ent0) rfl) rfl (by simp only [ents, List.getD_cons_zero, List.getD_cons_succ, Option.getD_some, dimsS, sizeK]; simp [pk hk.1 hkn])
  | drop k n hk hn hkn => exact fin (g1 (e := ents.getD 3 ent0) rfl) rfl (by
      have := hk.1; have := hn.2; have := hk.2; have := hn.1
      simp only [ents, List.getD_cons_zero, List.getD_cons_succ, Option.getD_some, dimsS, sizeK]; simp [pk hk.1 hkn, w64_dm (show -9000000000000 ≤ n - k ∧ n - k ≤ 9000000000000 by omega)])
  | reverse n hn => exact fin (g1 (e := ents.getD 4 ent0) rfl) rfl rfl
  | append m n hm hn => exact fin (g1 (e := ents.getD 5 ent0) rfl) rfl rfl
  | transpose m n hm hn => exact fin (g1 (e := ents.getD 6 ent0) rfl) rfl rfl
  | diagonal n hn => exact fin (g1 (e := ents.getD 7 ent0) rfl) rfl (by simp only [ents, List.getD_cons_zero, List.getD_cons_succ, Option.getD_some, dimsS]; simp)
  | windows k n hk hn hkn => exact fin (g1 (e := ents.getD 8 ent0) rfl) rfl (by
      have := hk.1; have := hn.2; have := hk.2; have := hn.1
      simp only [ents, List.getD_cons_zero, List.getD_cons_succ, Option.getD_some, dimsS, sizeK]
      simp [pk hk.1 hkn, w64_dm (show -9000000000000 ≤ n - k ∧ n - k ≤ 9000000000000 by omega), w64_dm (show -9000000000000 ≤ n - k + 1 ∧ n - k + 1 ≤ 9000000000000 by omega)])
  | chunk c q hc1 hc2 hq hn => exact fin (g1 (e := ents.getD 9 ent0) rfl) rfl (by
      have e1 : (q * num).tmod num = 0 := Int.mul_tmod_left ..
      have e2 : (q * num).tdiv num = q := Int.mul_tdiv_cancel _ (by omega)
      simp only [ents, List.getD_cons_zero, List.getD_cons_succ, Option.getD_some, dimsS, sizeK, reduceIte, e1, e2]
      rw [if_neg (by omega), if_neg (by simp)])
  | index n hn => exact fin (g1 (e := ents.getD 10 ent0) rfl) rfl rfl
  | update n hn => exact fin (g1 (e := ents.getD 11 ent0) rfl) rfl rfl
  | pack m h1 h2 => exact fin (g1 (e := packE _) rfl) (by simp only [packE, List.length_replicate, maxI1 h1]; exact rk_rep m) (by simp [packE, dimsS])
theorem app_fwd {op el : ByteArray} {ns : List Int} {num : Int} {cs : List Arr} {d : List Int} (h : Shp op ns num (cs.map Arr.d) d) (hv : ∀ a ∈ cs, ofE a = 0) (hd : (sizeS d).2 = 0) (hr : resultS op (cs.map (·.e)) = (el, true)) :
    applyS op ns num cs = (⟨el, d, (dataS op (sizeK ns num) d cs ((givenS op ns.length num cs.length).1.from_.getD 0)).1⟩, (dataS op (sizeK ns num) d cs ((givenS op ns.length num cs.length).1.from_.getD 0)).2, 0) := by
  have hg := giv_fwd h
  rw [List.length_map] at hg
  have hD := dim_fwd h (szErr_val hv) hd
  unfold applyS
  rw [if_neg (by simpa using hg), if_neg (by rw [all_val hv]; simp)]
  unfold applyT
  rw [show (cs.map fun x => x.d) = cs.map Arr.d from rfl, hr, hD, if_neg (by simp), if_neg (by simp)]
end Go.Proofs.Ytjlcbojpiieafaa

/- Primitives of lists: what they give. -/
namespace Go.Proofs.Ytjlcbojpiieafaa
open Go Go.Fw

theorem sizeS_mk {d : List Int} (h6 : d.length ≤ 6) (hd : dimOk d) (h4 : prI d ≤ 4096) : sizeS d = (prI d, 0) := by
  unfold sizeS
  rw [if_neg (by omega), if_neg (by
    intro hb
    obtain ⟨x, hx, hb⟩ := List.any_eq_true.1 hb
    have := hd x hx
    unfold badD at hb
    rw [Bool.or_eq_true, decide_eq_true_eq, decide_eq_true_eq] at hb
    omega)]
  split
  · rename_i h0; rw [prI_zero h0]
  · rename_i h0
    rw [prodS_ok (not_any_zero hd h0) (by decide) (by omega), Int.one_mul]
theorem dz1 {n : Int} (h : dm n) : sizeS [n] = (n, 0) := by
  have := sizeS_mk (d := [n]) (by simp) (fun x hx => by rw [List.mem_singleton] at hx; subst hx; exact h) (by rw [prI, prI]; have := h.2; omega)
  rw [this, prI, prI, Int.mul_one]
structure vL (a : List Int) : Prop where
  len : a.length ≤ 4096
  all : allV sInt a
theorem vL_of {a : List Int} (h : ofE (listA a) = 0) : vL a := ⟨(val_len h).2, val_allV h⟩
theorem vL.dm {a : List Int} (h : vL a) : dm (a.length : Int) := ⟨by omega, by have := h.len; omega⟩
theorem vL.ofE {a : List Int} (h : vL a) : ofE (listA a) = 0 := of_ok rfl (by rw [dz1 h.dm]) (by rw [dz1 h.dm]) h.all
theorem v1 {a : List Int} (ha : vL a) : ∀ x ∈ [listA a], Go.Proofs.Ytjlcbojpiieafaa.ofE x = 0 := fun x hx => by
  rw [List.mem_singleton] at hx; subst hx; exact ha.ofE
theorem do_of {op : ByteArray} {k : Int} {cs : List Arr} {r : Arr} {b : Bool} (h : applyS op (if sizedS op = true then [k] else []) 0 cs = (r, b, 0)) : doA op k cs = r := by
  unfold doA doT
  rw [h, if_neg (by simp)]
theorem gat_ext {g : Nat} {k n : Int} {out x : List Int} {a : Arr} (hl : (x.length : Int) = n) (h : ∀ p : Nat, (p : Int) < n → a.x.getD (fromS g k a.d (digF out p)).toNat 0 = x.getD p 0) : gatherS g k out a n.toNat = x := by
  unfold gatherS
  apply List.ext_getElem
  · rw [List.length_map, List.length_range]; omega
  · intro i h1 h2
    rw [List.getElem_map, List.getElem_range, h i (by omega), List.getD_eq_getElem?_getD, List.getElem?_eq_getElem h2]
    rfl
end Go.Proofs.Ytjlcbojpiieafaa

/- Elements: what index, update, iota and fill give. -/
namespace Go.Proofs.Ytjlcbojpiieafaa
open Go Go.Fw

def el32 (n : Int) : Prop := -2147483648 ≤ n ∧ n ≤ 2147483647
theorem vld_of {n : Int} (h : el32 n) : vld sInt n = true := by
  unfold vld
  rw [if_pos (show eqS sInt sInt = true from rfl)]
  exact decide_eq_true h
theorem vS {n : Int} (h : el32 n) : ofE (scalA n) = 0 := of_ok rfl rfl rfl fun m hm => by
  rw [List.mem_singleton] at hm; subst hm; exact vld_of h
theorem same_scal {n : Int} (h : el32 n) : sameA (scalA n) (scalA n) = true := by
  unfold sameA
  rw [vS h, eqA_refl]; rfl
theorem el_of {a : List Int} (h : vL a) (j : Nat) : el32 (a.getD j 0) := by
  by_cases hj : j < a.length
  · have hm : a.getD j 0 ∈ a := by rw [List.getD_eq_getElem?_getD, List.getElem?_eq_getElem hj]; exact List.getElem_mem hj
    have := h.all _ hm
    unfold vld at this
    rw [if_pos (show eqS sInt sInt = true from rfl)] at this
    exact (show -2147483648 ≤ a.getD j 0 ∧ a.getD j 0 ≤ 2147483647 from of_decide_eq_true this)
  · rw [List.getD_eq_getElem?_getD, List.getElem?_eq_none (by omega)]; exact ⟨by decide, by decide⟩
def outI (a : List Int) (q : Int) : Bool := decide (q < 0) || decide (q ≥ (a.length : Int))
def atI (a : List Int) (q : Int) : Int := if outI a q = true then 0 else a.getD q.toNat 0
def upI (a : List Int) (p n : Int) : List Int := if outI a p = true then a else a.set p.toNat n
theorem app_index {a : List Int} {q : Int} (ha : vL a) (hq : el32 q) : applyS n_index [] 0 [listA a, scalA q] = (scalA (atI a q), outI a q, 0) := by
  have hv : ∀ x ∈ [listA a, scalA q], ofE x = 0 := fun x hx => by
    rcases List.mem_cons.1 hx with rfl | hx
    · exact ha.ofE
    · rw [List.mem_singleton] at hx; subst hx; exact vS hq
  have h := app_fwd (op := n_index) (el := sInt) (ns := []) (num := 0) (cs := [listA a, scalA q]) (d := []) (.index _ ha.dm) hv rfl rfl
  rw [h]
  have e : ∀ g : Nat, dataS n_index (sizeK [] 0) [] [listA a, scalA q] g = checkedS n_index [listA a, scalA q] := fun _ => rfl
  rw [e]
  have e2 : checkedS n_index [listA a, scalA q] = if outI a q = true then ([0], true) else ([a.getD q.toNat 0], false) := by
    unfold checkedS
    simp only [List.getD_cons_zero, List.getD_cons_succ]
    rw [show outS (listA a) (scalA q) = outI a q from rfl, show (eqS n_index n_index && outI a q) = outI a q from Bool.true_and _]
    split
    · rfl
    · rw [if_pos (show eqS n_index n_index = true from rfl)]; rfl
  rw [e2]
  unfold atI scalA
  cases ho : outI a q with
  | true => rfl
  | false => rfl
theorem vL.up {a : List Int} (ha : vL a) {n : Int} (hn : el32 n) (p : Int) : vL (upI a p n) := by
  unfold upI
  split
  · exact ha
  · refine ⟨by rw [List.length_set]; exact ha.len, fun m hm => ?_⟩
    rcases List.mem_or_eq_of_mem_set hm with h | h
    · exact ha.all m h
    · subst h; exact vld_of hn
theorem upI_len {a : List Int} {p n : Int} : (upI a p n).length = a.length := by
  unfold upI
  split
  · rfl
  · rw [List.length_set]
theorem app_update {a : List Int} {p n : Int} (ha : vL a) (hp : el32 p) (hn : el32 n) : applyS n_update [] 0 [listA a, scalA p, scalA n] = (listA (upI a p n), outI a p, 0) := by
  have hv : ∀ x ∈ [listA a, scalA p, scalA n], ofE x = 0 := fun x hx => by
    rcases List.mem_cons.1 hx with rfl | hx
    · exact ha.ofE
    rcases List.mem_cons.1 hx with rfl | hx
    · exact vS hp
    · rw [List.mem_singleton] at hx; subst hx; exact vS hn
  have h := app_fwd (op := n_update) (el := sInt) (ns := []) (num := 0) (cs := [listA a, scalA p, scalA n]) (d := [(a.length : Int)]) (.update _ ha.dm) hv (by rw [dz1 ha.dm]) rfl
  rw [h]
  have e : ∀ g : Nat, dataS n_update (sizeK [] 0) [(a.length : Int)] [listA a, scalA p, scalA n] g = checkedS n_update [listA a, scalA p, scalA n] := fun _ => rfl
  rw [e]
  have e2 : checkedS n_update [listA a, scalA p, scalA n] = if outI a p = true then (a, true) else (a.set p.toNat n, false) := rfl
  rw [e2]
  unfold upI listA
  cases ho : outI a p with
  | true => rfl
  | false =>
    show ((⟨sInt, [(a.length : Int)], a.set p.toNat n⟩ : Arr), false, (0 : Int)) = (⟨sInt, [((a.set p.toNat n).length : Int)], a.set p.toNat n⟩, false, 0)
    rw [List.length_set]
theorem vL_range {n : Nat} (h : n ≤ 4096) : vL (rangeS n) := ⟨by rw [rangeS_len]; exact h, fun m hm => by
  unfold rangeS at hm
  obtain ⟨j, hj, rfl⟩ := List.mem_map.1 hm
  rw [List.mem_range] at hj
  exact vld_of ⟨by omega, by omega⟩⟩
theorem do_iota {n : Nat} (h : n ≤ 4096) : doA n_iota n [] = listA (rangeS n) := by
  have hd : dm (n : Int) := ⟨by omega, by omega⟩
  have hh := app_fwd (op := n_iota) (el := sInt) (ns := [(n : Int)]) (num := 0) (cs := []) (d := [(n : Int)]) (.iota _ hd) (fun x hx => by cases hx) (by rw [dz1 hd]) rfl
  refine (do_of hh).trans ?_
  show (⟨sInt, [(n : Int)], rangeS (n : Int).toNat⟩ : Arr) = _
  unfold listA
  rw [rangeS_len, Int.toNat_natCast]
theorem vL_rep {n : Nat} {v : Int} (h : n ≤ 4096) (hv : el32 v) : vL (List.replicate n v) := ⟨by rw [List.length_replicate]; exact h, fun m hm => by rw [List.eq_of_mem_replicate hm]; exact vld_of hv⟩
theorem do_fill {n : Nat} {v : Int} (h : n ≤ 4096) (hv : el32 v) : doA n_fill n [scalA v] = listA (List.replicate n v) := by
  have hd : dm (n : Int) := ⟨by omega, by omega⟩
  have hh := app_fwd (op := n_fill) (el := sInt) (ns := [(n : Int)]) (num := 0) (cs := [scalA v]) (d := [(n : Int)]) (.fill _ hd) (fun x hx => by rw [List.mem_singleton] at hx; subst hx; exact vS hv) (by rw [dz1 hd]) rfl
  refine (do_of hh).trans ?_
  show (⟨sInt, [(n : Int)], gatherS 104 n [(n : Int)] (scalA v) (sizeS [(n : Int)]).1.toNat⟩ : Arr) = _
  rw [dz1 hd, gat_ext (x := List.replicate n v) (by rw [List.length_replicate])]
  · unfold listA; rw [List.length_replicate]
  · intro p hp
    show v = _
    rw [List.getD_eq_getElem?_getD, List.getElem?_replicate, if_pos (by omega)]
    rfl
theorem do_index {a : List Int} {q : Int} (ha : vL a) (hq : el32 q) : doA n_index 0 [listA a, scalA q] = scalA (atI a q) := do_of (app_index ha hq)
theorem atI_range {n : Nat} {q : Int} (h : outI (rangeS n) q = false) : atI (rangeS n) q = q := by
  unfold atI
  rw [if_neg (by rw [h]; simp)]
  unfold outI at h
  rw [rangeS_len, Bool.or_eq_false_iff, decide_eq_false_iff_not, decide_eq_false_iff_not] at h
  rw [rangeS_get (by omega)]
  omega
theorem atI_rep {n : Nat} {q v : Int} (h : outI (List.replicate n v) q = false) : atI (List.replicate n v) q = v := by
  unfold atI
  rw [if_neg (by rw [h]; simp)]
  unfold outI at h
  rw [List.length_replicate, Bool.or_eq_false_iff, decide_eq_false_iff_not, decide_eq_false_iff_not] at h
  rw [List.getD_eq_getElem?_getD, List.getElem?_replicate, if_pos (by omega)]
  rfl
end Go.Proofs.Ytjlcbojpiieafaa
