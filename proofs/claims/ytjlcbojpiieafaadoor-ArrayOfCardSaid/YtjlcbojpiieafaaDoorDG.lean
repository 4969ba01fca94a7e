/- Places and indices: plain facts. -/
import Derived.Test.YtjlcbojpiieafaaDoorDE
import Derived.Test.YtjlcbojpiieafaaDoorDD
import Derived.Test.YtjlcbojpiieafaaDoorFwC

set_option linter.all false

namespace Go.Proofs.YtjlcbojpiieafaaDoor
open Go Go.Fw

def eqA (a b : Arr) : Bool := eqS a.e b.e && (decide (a.d = b.d) && decide (a.x = b.x))
def placeS (a : Arr) (ix : List Int) : Int × Int := if ofE a = 0 then offS a.d ix else (0, 1)
def atA (a : Arr) (ix : List Int) : Int × Int := if (placeS a ix).2 = 0 then (a.x.getD (placeS a ix).1.toNat 0, 0) else (0, (placeS a ix).2)
def setA' (a : Arr) (ix : List Int) (n : Int) : Arr × Int := if (placeS a ix).2 ≠ 0 then (nilA, (placeS a ix).2) else if vld a.e n = false then (nilA, 2) else (⟨a.e, a.d, a.x.set (placeS a ix).1.toNat n⟩, 0)
theorem atS_bd : ∀ (d o : List Int) (p k r : Int), 0 ≤ k → k < p → d.length = o.length → atS d o k = some r → 0 ≤ r ∧ r < p * prI d
  | [], [], p, k, r, hk, hp, _, h => by simp only [atS, Option.some.injEq] at h; subst h; simp [prI]; omega
  | d :: f, n :: o, p, k, r, hk, hp, hl, h => by
    unfold atS at h
    split at h
    · cases h
    · rename_i hn
      have := at_step hk hp (show 0 ≤ n by omega) (show n < d by omega)
      have := atS_bd f o (p * d) (k * d + n) r this.2.1 this.2.2 (by simpa using hl) h
      rw [prI, ← Int.mul_assoc]; exact this
  | [], _ :: _, _, _, _, _, _, hl, _ => by simp at hl
  | _ :: _, [], _, _, _, _, _, hl, _ => by simp at hl
theorem offS_bd {d ix : List Int} {n : Int} (hS : sizeS d = (n, 0)) (h : (offS d ix).2 = 0) : 0 ≤ (offS d ix).1 ∧ (offS d ix).1 < n := by
  obtain ⟨_, _, hn, _⟩ := sizeS_ok hS
  revert h
  unfold offS
  rw [hS]
  simp only
  rw [if_neg (by simp)]
  split
  · intro h; simp at h
  · rename_i hl
    split
    · intro h; simp at h
    · rename_i r hr
      intro _
      have := atS_bd d ix 1 0 r (by omega) (by omega) (by omega) hr
      rw [Int.one_mul, ← hn] at this
      exact this
theorem place_bd {a : Arr} {ix : List Int} (h : (placeS a ix).2 = 0) : 0 ≤ (placeS a ix).1 ∧ (placeS a ix).1 < a.x.length := by
  revert h
  unfold placeS
  split
  · rename_i h0
    intro h
    exact offS_bd (ofE_inv h0).2.1 h
  · intro h; simp at h
theorem place_ok {a : Arr} {ix : List Int} (h : (placeS a ix).2 = 0) : ofE a = 0 := by
  revert h
  unfold placeS
  split
  · rename_i h0; intro _; exact h0
  · intro h; simp at h
theorem ofE_set {a : Arr} {i : Nat} {n : Int} (h : ofE a = 0) (hn : vld a.e n = true) : ofE ⟨a.e, a.d, a.x.set i n⟩ = 0 := by
  obtain ⟨h1, h2, h3⟩ := ofE_inv h
  refine ofE_zero h1 (by simpa using h2) ?_
  unfold bad at h3 ⊢
  rw [List.any_eq_false] at h3 ⊢
  intro x hx
  rcases List.mem_or_eq_of_mem_set hx with h | h
  · exact h3 x h
  · subst h; simp [hn]
end Go.Proofs.YtjlcbojpiieafaaDoor

/- Indices of places: plain facts. -/
namespace Go.Proofs.YtjlcbojpiieafaaDoor
open Go Go.Fw

def digF : List Int → Int → List Int
  | [], _ => []
  | _ :: t, o => o / prI t :: digF t (o % prI t)
theorem prI_rev : ∀ l : List Int, prI l.reverse = prI l
  | [] => rfl
  | d :: t => by rw [List.reverse_cons, prI_app, prI_rev t, prI, prI, prI, Int.mul_one, Int.mul_comm]
theorem digR_app : ∀ (l : List Int) (d o : Int), (∀ x ∈ l, 1 ≤ x) → 0 ≤ o → digR (l ++ [d]) o = digR l o ++ [(o / prI l).tmod d]
  | [], d, o, _, h => by simp [digR, prI]
  | x :: l, d, o, hl, h => by
    have hx := hl x (by simp)
    have h1 : o.tdiv x = o / x := Int.tdiv_eq_ediv_of_nonneg h
    have h2 : 0 ≤ o / x := Int.ediv_nonneg h (by omega)
    rw [List.cons_append, digR, digR, List.cons_append, h1, digR_app l d _ (fun y hy => hl y (by simp [hy])) h2, prI, Int.ediv_ediv_of_nonneg (by omega)]
theorem digR_mod : ∀ (l : List Int) (o : Int), (∀ x ∈ l, 1 ≤ x) → 0 ≤ o → digR l (o % prI l) = digR l o
  | [], _, _, _ => rfl
  | x :: l, o, hl, h => by
    have hx := hl x (by simp)
    have ht : ∀ y ∈ l, 1 ≤ y := fun y hy => hl y (by simp [hy])
    have hp := prI_pos ht
    have h0 : 0 ≤ o % (x * prI l) := Int.emod_nonneg _ (by have := Int.mul_pos (show 0 < x by omega) (show 0 < prI l by omega); omega)
    rw [prI, digR, digR, Int.tmod_eq_emod_of_nonneg h0, Int.tmod_eq_emod_of_nonneg h, Int.tdiv_eq_ediv_of_nonneg h0, Int.tdiv_eq_ediv_of_nonneg h, Int.emod_emod_of_dvd o ⟨prI l, rfl⟩]
    have e : o % (x * prI l) / x = (o / x) % prI l := by
      have h1 := Int.emod_add_mul_ediv o (x * prI l)
      have h2 := Int.emod_add_mul_ediv (o / x) (prI l)
      rw [Int.ediv_ediv_of_nonneg (by omega)] at h2
      have h3 : o = o % (x * prI l) + x * (prI l * (o / (x * prI l))) := by rw [← Int.mul_assoc]; omega
      have h4 : o / x = o % (x * prI l) / x + prI l * (o / (x * prI l)) := by
        conv => lhs; rw [h3]
        rw [Int.add_mul_ediv_left _ _ (by omega)]
      omega
    rw [e, digR_mod l _ ht (Int.ediv_nonneg h (by omega))]
theorem dig_eq : ∀ (d : List Int) (o : Int), (∀ x ∈ d, 1 ≤ x) → 0 ≤ o → o < prI d → (digR d.reverse o).reverse = digF d o
  | [], _, _, _, _ => rfl
  | d :: t, o, hl, h, hb => by
    have hd := hl d (by simp)
    have ht : ∀ y ∈ t, 1 ≤ y := fun y hy => hl y (by simp [hy])
    have hr : ∀ y ∈ t.reverse, 1 ≤ y := fun y hy => ht y (List.mem_reverse.1 hy)
    have hp := prI_pos ht
    have h1 : 0 ≤ o / prI t := Int.ediv_nonneg h (by omega)
    have h2 : o / prI t < d := Int.ediv_lt_of_lt_mul (by omega) hb
    rw [List.reverse_cons, digR_app _ _ _ hr h, List.reverse_append, prI_rev]
    have e : digR t.reverse o = digR t.reverse (o % prI t) := by
      have := digR_mod t.reverse o hr h
      rw [prI_rev] at this; exact this.symm
    rw [e, digF, List.reverse_cons, List.reverse_nil, List.nil_append, List.singleton_append, Int.tmod_eq_emod_of_nonneg h1, Int.emod_eq_of_lt h1 h2,
      dig_eq t _ ht (Int.emod_nonneg _ (by omega)) (Int.emod_lt_of_pos _ (by omega))]
theorem digF_len : ∀ (d : List Int) (o : Int), (digF d o).length = d.length
  | [], _ => rfl
  | _ :: t, o => by simp [digF, digF_len t]
theorem atS_dig : ∀ (d : List Int) (o k : Int), (∀ x ∈ d, 1 ≤ x) → 0 ≤ o → o < prI d → atS d (digF d o) k = some (k * prI d + o)
  | [], o, k, _, h, hb => by simp only [prI] at hb; simp only [digF, atS, prI]; congr 1; omega
  | d :: t, o, k, hl, h, hb => by
    have hd := hl d (by simp)
    have ht : ∀ y ∈ t, 1 ≤ y := fun y hy => hl y (by simp [hy])
    have hp := prI_pos ht
    have h1 : 0 ≤ o / prI t := Int.ediv_nonneg h (by omega)
    have h2 : o / prI t < d := Int.ediv_lt_of_lt_mul (by omega) hb
    rw [digF, atS, if_neg (by omega), atS_dig t _ _ ht (Int.emod_nonneg _ (by omega)) (Int.emod_lt_of_pos _ (by omega))]
    congr 1
    have e := Int.emod_add_mul_ediv o (prI t)
    rw [Int.add_mul, prI, ← Int.mul_assoc, Int.mul_comm (o / prI t)]
    omega
theorem digF_inj {d : List Int} {o p : Int} (hl : ∀ x ∈ d, 1 ≤ x) (h : 0 ≤ o) (hb : o < prI d) (h' : 0 ≤ p) (hb' : p < prI d) (e : digF d o = digF d p) : o = p := by
  have h1 := atS_dig d o 0 hl h hb
  have h2 := atS_dig d p 0 hl h' hb'
  rw [e, h2, Option.some.injEq] at h1
  omega
/-- Are two lists of numbers in the order that a boolean says (equal: another one)? -/
def ordL (b c : Bool) : List Int → List Int → Bool
  | x :: xs, y :: ys => if x = y then ordL b c xs ys else decide (x < y) == b
  | _, _ => c
theorem ordL_dig : ∀ (d : List Int) (o p : Int), (∀ x ∈ d, 1 ≤ x) → 0 ≤ o → o < prI d → 0 ≤ p → p < prI d → ordL (decide (o < p)) (o == p) (digF d o) (digF d p) = true
  | [], o, p, _, h, hb, h', hb' => by simp only [prI] at hb hb'; simp only [digF, ordL, beq_iff_eq]; omega
  | d :: t, o, p, hl, h, hb, h', hb' => by
    have hd := hl d (by simp)
    have ht : ∀ y ∈ t, 1 ≤ y := fun y hy => hl y (by simp [hy])
    have hp := prI_pos ht
    have e1 := Int.emod_add_mul_ediv o (prI t)
    have e2 := Int.emod_add_mul_ediv p (prI t)
    have r1 := Int.emod_nonneg o (show prI t ≠ 0 by omega)
    have r2 := Int.emod_nonneg p (show prI t ≠ 0 by omega)
    have s1 := Int.emod_lt_of_pos o (show 0 < prI t by omega)
    have s2 := Int.emod_lt_of_pos p (show 0 < prI t by omega)
    rw [digF, digF, ordL]
    split
    · rename_i e
      have := ordL_dig t _ _ ht r1 s1 r2 s2
      rw [e] at e1
      have a1 : decide (o % prI t < p % prI t) = decide (o < p) := by
        have : (o % prI t < p % prI t) ↔ (o < p) := by omega
        simp [this]
      have a2 : (o % prI t == p % prI t) = (o == p) := by
        by_cases h : o = p
        · rw [h]; simp
        · rw [beq_eq_false_iff_ne.2 h, beq_eq_false_iff_ne]; omega
      rw [a1, a2] at this
      exact this
    · rename_i e
      rw [beq_iff_eq]
      generalize hx : o / prI t = x at e e1
      generalize hy : p / prI t = y at e e2
      generalize prI t = P at *
      have m1 : x < y → (x + 1) * P ≤ y * P := fun h => Int.mul_le_mul_of_nonneg_right (by omega) (by omega)
      have m2 : y < x → (y + 1) * P ≤ x * P := fun h => Int.mul_le_mul_of_nonneg_right (by omega) (by omega)
      rw [Int.add_mul, Int.one_mul] at m1 m2
      rw [Int.mul_comm P] at e1 e2
      have : (x < y) ↔ (o < p) := by omega
      simp [this]
theorem idx_ok {d : List Int} {n p : Int} (hS : sizeS d = (n, 0)) (h : 0 ≤ p) (hb : p < n) : idxS d p = (digF d p, 0) ∧ (∀ x ∈ d, 1 ≤ x) ∧ n = prI d := by
  have hn := (sizeS_ok hS).2.2.1
  have hp := dims_pos hS h hb
  refine ⟨?_, hp, hn⟩
  unfold idxS
  rw [hS]
  simp only
  rw [if_neg (by simp), if_neg (by omega), dig_eq d p hp h (by omega)]
theorem off_dig {d : List Int} {n p : Int} (hS : sizeS d = (n, 0)) (h : 0 ≤ p) (hb : p < n) : offS d (digF d p) = (p, 0) := by
  obtain ⟨_, hp, hn⟩ := idx_ok hS h hb
  unfold offS
  rw [hS]
  simp only
  rw [if_neg (by simp), if_neg (by rw [digF_len]; simp), atS_dig d p 0 hp h (by omega)]
  simp
end Go.Proofs.YtjlcbojpiieafaaDoor

/- Arrays: equality, places, elements. -/
namespace Go.Proofs.YtjlcbojpiieafaaDoor
open Go Go.Fw

def jA : AV := arrV nilA
def jk : TypeId → AV := lookZ [(3, .lit (.int .i64 0)), (9, .lit (.string ByteArray.empty)), (22, .sl false 1 []), (35, jA)]
theorem jk3 : jk 3 = .lit (.int .i64 0) := rfl
theorem jk9 : jk 9 = .lit (.string ByteArray.empty) := rfl
theorem jk22 : jk 22 = .sl false 1 [] := rfl
theorem jk35 : jk 35 = jA := rfl
theorem arrs_getJ (l : List Arr) (i : Nat) : (arrs l).getD i jA = arrV (l.getD i nilA) := by
  simp only [arrs, jA, List.getD_eq_getElem?_getD, List.getElem?_map]; cases l[i]? <;> rfl
attribute [go_sem] jk3 jk9 jk22 jk35 arrs_getJ
noncomputable def E60 : Env := envJ (P := Tryd.prog) jk zer (fun _ => false) (fun _ => false) [con15, con35] []
theorem E60_ok : EnvOk Tryd.prog E60 := envJOk zer_ok
set_option maxRecDepth 20000 in
set_option maxHeartbeats 1000000 in
theorem eqa_pc {f : FuncId} {a b : Arr} (hf : f = 24 ∨ f = 21) (ha : okA a) : PC Tryd.prog f [arrV a, arrV b] (.lit (.bool (eqA a b))) := by
  have ha1 := ha.1
  have ha2 := ha.2
  unfold eqA
  rcases hf with rfl | rfl
  · skip
    refine pc_ofR E60_ok mixed (fun _ => [0, 1, 2, 3, 4]) (rs := [.tmp 4]) Tryd.func24 rfl (by kernel_rfl) (by kernel_rfl) (Nat.le_of_ble_eq_true rfl) ?_
    simp only [initF_cons, initF_nil, Nat.reduceAdd]
    refine t_name fun KF => ?_
    unfold E60
    repeat' (first
      | with_reducible refine t_seq fun K => ?_
      | with_reducible refine t_block ?_
      | with_reducible refine t_scope ?_
      | with_reducible refine t_label ?_
      | with_reducible refine t_skip ?_
      | with_reducible refine t_exit ?_
      | with_reducible refine t_ret ?_
      | with_reducible refine t_k ?_
      | (with_reducible refine t_gF ?_)
      | ((first | with_reducible refine t_kE ?_ | with_reducible refine t_kD ?_ | with_reducible refine t_gS ?_ | with_reducible refine t_kL ?_ | (with_reducible refine t_kLE ?_ ?_; rotate_left) | with_reducible refine t_region fun K => ?_ | with_reducible refine t_draw (by kernel_rfl) fun K => ?_); simp only [go_sem, Int.cast_ofNat_Int, Nat.reduceEqDiff, reduceIte, Nat.reduceAdd, Nat.reduceMul, Nat.reduceLeDiff, Nat.reduceSub, Nat.reduceLT, Nat.zero_lt_succ, Int.reduceToNat, Int.reduceAdd, Int.reduceSub, Int.reduceMul, Int.reduceNeg, Int.reduceLT, Int.reduceLE, Int.reduceEq, Int.reduceBEq, Int.reduceBNe, Nat.reduceBEq, List.reduceReplicate, con15_f, con15_c, con35_f, con35_c, arrV_def, slK_sl])
      | (with_reducible exact kp_nil)
      | (with_reducible exact Kp.refl _)
      | (with_reducible exact kp_to)
      | (with_reducible refine kp_cons ?_)
      | (with_reducible refine kp_arr ?_)
      | (with_reducible refine kp_app ?_)
      | ((with_reducible refine kp_skip ?_ ?_); rfl)
      | ((with_reducible refine t_cond fun A B => ?_); simp only [go_sem, Int.cast_ofNat_Int, Nat.reduceEqDiff, reduceIte, Nat.reduceAdd, Nat.reduceMul, Nat.reduceLeDiff, Nat.reduceSub, Nat.reduceLT, Nat.zero_lt_succ, Int.reduceToNat, Int.reduceAdd, Int.reduceSub, Int.reduceMul, Int.reduceNeg, Int.reduceLT, Int.reduceLE, Int.reduceEq, Int.reduceBEq, Int.reduceBNe, Nat.reduceBEq, List.reduceReplicate, con15_f, con15_c, con35_f, con35_c, arrV_def, slK_sl]; first | (with_reducible refine A.h ?_) | (with_reducible refine B.h ?_) | (refine And.intro (fun hc => A.h ?_) (fun hc => B.h ?_)))
      | simp only [thenQ_n, thenQ_r, thenQ_e, blockQ_n, blockQ_r, blockQ_e, scopeQ_n, scopeQ_r, scopeQ_e, Nat.reduceEqDiff, reduceIte]
      | (with_reducible refine And.intro ?_ ?_)
      | with_reducible intro vr)
    all_goals try (first | (with_reducible assumption) | (intros; (try simp only [Bool.and_eq_true, Bool.or_eq_true, Bool.not_eq_true', decide_eq_true_eq, decide_eq_false_iff_not, beq_iff_eq, bne_iff_ne, ne_eq, inI64, List.length_append] at *) <;> omega))
    all_goals ((first | refine end_retE ?_ | refine end_normE ?_); simp only [fin, go_sem, Int.cast_ofNat_Int, Nat.reduceEqDiff, reduceIte, Nat.reduceAdd, Nat.reduceMul, Nat.reduceLeDiff, Nat.reduceSub, Nat.reduceLT, Nat.zero_lt_succ, Int.reduceToNat, Int.reduceAdd, Int.reduceSub, Int.reduceMul, Int.reduceNeg, Int.reduceLT, Int.reduceLE, Int.reduceEq, Int.reduceBEq, Int.reduceBNe, Nat.reduceBEq, List.reduceReplicate])
    exact LeA.of_eq (by rw [Bool.and_assoc])
  · skip
    refine pc_ofR E60_ok mixed (fun _ => [0, 1, 2, 3, 4]) (rs := [.tmp 4]) Tryd.func21 rfl (by kernel_rfl) (by kernel_rfl) (Nat.le_of_ble_eq_true rfl) ?_
    simp only [initF_cons, initF_nil, Nat.reduceAdd]
    refine t_name fun KF => ?_
    unfold E60
    repeat' (first
      | with_reducible refine t_seq fun K => ?_
      | with_reducible refine t_block ?_
      | with_reducible refine t_scope ?_
      | with_reducible refine t_label ?_
      | with_reducible refine t_skip ?_
      | with_reducible refine t_exit ?_
      | with_reducible refine t_ret ?_
      | with_reducible refine t_k ?_
      | (with_reducible refine t_gF ?_)
      | ((first | with_reducible refine t_kE ?_ | with_reducible refine t_kD ?_ | with_reducible refine t_gS ?_ | with_reducible refine t_kL ?_ | (with_reducible refine t_kLE ?_ ?_; rotate_left) | with_reducible refine t_region fun K => ?_ | with_reducible refine t_draw (by kernel_rfl) fun K => ?_); simp only [go_sem, Int.cast_ofNat_Int, Nat.reduceEqDiff, reduceIte, Nat.reduceAdd, Nat.reduceMul, Nat.reduceLeDiff, Nat.reduceSub, Nat.reduceLT, Nat.zero_lt_succ, Int.reduceToNat, Int.reduceAdd, Int.reduceSub, Int.reduceMul, Int.reduceNeg, Int.reduceLT, Int.reduceLE, Int.reduceEq, Int.reduceBEq, Int.reduceBNe, Nat.reduceBEq, List.reduceReplicate, con15_f, con15_c, con35_f, con35_c, arrV_def, slK_sl])
      | (with_reducible exact kp_nil)
      | (with_reducible exact Kp.refl _)
      | (with_reducible exact kp_to)
      | (with_reducible refine kp_cons ?_)
      | (with_reducible refine kp_arr ?_)
      | (with_reducible refine kp_app ?_)
      | ((with_reducible refine kp_skip ?_ ?_); rfl)
      | ((with_reducible refine t_cond fun A B => ?_); simp only [go_sem, Int.cast_ofNat_Int, Nat.reduceEqDiff, reduceIte, Nat.reduceAdd, Nat.reduceMul, Nat.reduceLeDiff, Nat.reduceSub, Nat.reduceLT, Nat.zero_lt_succ, Int.reduceToNat, Int.reduceAdd, Int.reduceSub, Int.reduceMul, Int.reduceNeg, Int.reduceLT, Int.reduceLE, Int.reduceEq, Int.reduceBEq, Int.reduceBNe, Nat.reduceBEq, List.reduceReplicate, con15_f, con15_c, con35_f, con35_c, arrV_def, slK_sl]; first | (with_reducible refine A.h ?_) | (with_reducible refine B.h ?_) | (refine And.intro (fun hc => A.h ?_) (fun hc => B.h ?_)))
      | simp only [thenQ_n, thenQ_r, thenQ_e, blockQ_n, blockQ_r, blockQ_e, scopeQ_n, scopeQ_r, scopeQ_e, Nat.reduceEqDiff, reduceIte]
      | (with_reducible refine And.intro ?_ ?_)
      | with_reducible intro vr)
    all_goals try (first | (with_reducible assumption) | (intros; (try simp only [Bool.and_eq_true, Bool.or_eq_true, Bool.not_eq_true', decide_eq_true_eq, decide_eq_false_iff_not, beq_iff_eq, bne_iff_ne, ne_eq, inI64, List.length_append] at *) <;> omega))
    all_goals ((first | refine end_retE ?_ | refine end_normE ?_); simp only [fin, go_sem, Int.cast_ofNat_Int, Nat.reduceEqDiff, reduceIte, Nat.reduceAdd, Nat.reduceMul, Nat.reduceLeDiff, Nat.reduceSub, Nat.reduceLT, Nat.zero_lt_succ, Int.reduceToNat, Int.reduceAdd, Int.reduceSub, Int.reduceMul, Int.reduceNeg, Int.reduceLT, Int.reduceLE, Int.reduceEq, Int.reduceBEq, Int.reduceBNe, Nat.reduceBEq, List.reduceReplicate])
    exact LeA.of_eq (by rw [Bool.and_assoc])
noncomputable def con24 : PCon Tryd.prog where
  f := 24
  c := fun
    | [xa, xb] => match arrOf xa, arrOf xb with | some a, some b => some (okA a, .lit (.bool (eqA a b))) | _, _ => none
    | _ => none
  ok := by
    intro args p r hc hp
    split at hc
    · split at hc
      · rename_i ha hb
        cases hc
        exact PC.weak ((eqa_pc (.inl rfl)) hp) ⟨arrOf_le ha, arrOf_le hb, trivial⟩
      · cases hc
    · cases hc
  fk := fk24
theorem con24_f : con24.f = 24 := rfl
theorem con24_c {xa : AV} {xb : AV} : con24.c [xa, xb] = match arrOf xa, arrOf xb with | some a, some b => some (okA a, .lit (.bool (eqA a b))) | _, _ => none := rfl
noncomputable def con21 : PCon Tryd.prog where
  f := 21
  c := fun
    | [xa, xb] => match arrOf xa, arrOf xb with | some a, some b => some (okA a, .lit (.bool (eqA a b))) | _, _ => none
    | _ => none
  ok := by
    intro args p r hc hp
    split at hc
    · split at hc
      · rename_i ha hb
        cases hc
        exact PC.weak ((eqa_pc (.inr rfl)) hp) ⟨arrOf_le ha, arrOf_le hb, trivial⟩
      · cases hc
    · cases hc
  fk := fk21
theorem con21_f : con21.f = 21 := rfl
theorem con21_c {xa : AV} {xb : AV} : con21.c [xa, xb] = match arrOf xa, arrOf xb with | some a, some b => some (okA a, .lit (.bool (eqA a b))) | _, _ => none := rfl
noncomputable def E61 : Env := envJ (P := Tryd.prog) jk zer (fun _ => false) (fun _ => false) [con22, con11, con23, con12, con18, con10] []
theorem E61_ok : EnvOk Tryd.prog E61 := envJOk zer_ok
set_option maxRecDepth 20000 in
set_option maxHeartbeats 1000000 in
theorem place_pc {a : Arr} {ix : List Int} (ha : okA a) (hi : ix.length ≤ 1000000) : PC Tryd.prog 36 [arrV a, .sl false 1 (ints .i64 ix)] (szV (placeS a ix)) := by
  have ha1 := ha.1
  have ha2 := ha.2
  refine pc_ofR E61_ok mixed (fun _ => [0, 1, 2, 4, 5, 8]) (rs := [.tmp 4, .tmp 5]) Tryd.func36 rfl (by kernel_rfl) (by kernel_rfl) (Nat.le_of_ble_eq_true rfl) ?_
  simp only [initF_cons, initF_nil, Nat.reduceAdd]
  refine t_name fun KF => ?_
  unfold E61
  repeat' (first
    | with_reducible refine t_seq fun K => ?_
    | with_reducible refine t_block ?_
    | with_reducible refine t_scope ?_
    | with_reducible refine t_label ?_
    | with_reducible refine t_skip ?_
    | with_reducible refine t_exit ?_
    | with_reducible refine t_ret ?_
    | with_reducible refine t_k ?_
    | (with_reducible refine t_gF ?_)
    | ((first | with_reducible refine t_kE ?_ | with_reducible refine t_kD ?_ | with_reducible refine t_gS ?_ | with_reducible refine t_kL ?_ | (with_reducible refine t_kLE ?_ ?_; rotate_left) | with_reducible refine t_region fun K => ?_ | with_reducible refine t_draw (by kernel_rfl) fun K => ?_); simp only [go_sem, Int.cast_ofNat_Int, Nat.reduceEqDiff, reduceIte, Nat.reduceAdd, Nat.reduceMul, Nat.reduceLeDiff, Nat.reduceSub, Nat.reduceLT, Nat.zero_lt_succ, Int.reduceToNat, Int.reduceAdd, Int.reduceSub, Int.reduceMul, Int.reduceNeg, Int.reduceLT, Int.reduceLE, Int.reduceEq, Int.reduceBEq, Int.reduceBNe, Nat.reduceBEq, List.reduceReplicate, con22_f, con11_f, con22_c, con11_c, arrOf_agg, arrV_def, slK_sl, szV_def])
    | (with_reducible exact kp_nil)
    | (with_reducible exact Kp.refl _)
    | (with_reducible exact kp_to)
    | (with_reducible refine kp_cons ?_)
    | (with_reducible refine kp_arr ?_)
    | (with_reducible refine kp_app ?_)
    | ((with_reducible refine kp_skip ?_ ?_); rfl)
    | ((with_reducible refine t_cond fun A B => ?_); simp only [go_sem, Int.cast_ofNat_Int, Nat.reduceEqDiff, reduceIte, Nat.reduceAdd, Nat.reduceMul, Nat.reduceLeDiff, Nat.reduceSub, Nat.reduceLT, Nat.zero_lt_succ, Int.reduceToNat, Int.reduceAdd, Int.reduceSub, Int.reduceMul, Int.reduceNeg, Int.reduceLT, Int.reduceLE, Int.reduceEq, Int.reduceBEq, Int.reduceBNe, Nat.reduceBEq, List.reduceReplicate, con22_f, con11_f, con22_c, con11_c, arrOf_agg, arrV_def, slK_sl, szV_def]; first | (with_reducible refine A.h ?_) | (with_reducible refine B.h ?_) | (refine And.intro (fun hc => A.h ?_) (fun hc => B.h ?_)))
    | simp only [thenQ_n, thenQ_r, thenQ_e, blockQ_n, blockQ_r, blockQ_e, scopeQ_n, scopeQ_r, scopeQ_e, Nat.reduceEqDiff, reduceIte]
    | (with_reducible refine And.intro ?_ ?_)
    | with_reducible intro vr)
  all_goals try (first | (with_reducible assumption) | (intros; (try simp only [Bool.and_eq_true, Bool.or_eq_true, Bool.not_eq_true', decide_eq_true_eq, decide_eq_false_iff_not, beq_iff_eq, bne_iff_ne, ne_eq, inI64, List.length_append] at *) <;> omega))
  all_goals ((first | refine end_retE ?_ | refine end_normE ?_); simp only [fin, go_sem, Int.cast_ofNat_Int, Nat.reduceEqDiff, reduceIte, Nat.reduceAdd, Nat.reduceMul, Nat.reduceLeDiff, Nat.reduceSub, Nat.reduceLT, Nat.zero_lt_succ, Int.reduceToNat, Int.reduceAdd, Int.reduceSub, Int.reduceMul, Int.reduceNeg, Int.reduceLT, Int.reduceLE, Int.reduceEq, Int.reduceBEq, Int.reduceBNe, Nat.reduceBEq, List.reduceReplicate])
  all_goals simp_all [szV_def, placeS, LeA.refl]
noncomputable def E62 : Env := envJ (P := Tryd.prog) jk zer (fun _ => false) (fun _ => false) [con9, con17] []
theorem E62_ok : EnvOk Tryd.prog E62 := envJOk zer_ok
theorem tyOk_t {e : ByteArray} (h : (!eqS e ⟨#[105, 110, 116]⟩ && !eqS e ⟨#[98, 111, 111, 108]⟩) = true) : tyOk e = false := by unfold tyOk; simp_all
theorem tyOk_f {e : ByteArray} (h : (!eqS e ⟨#[105, 110, 116]⟩ && !eqS e ⟨#[98, 111, 111, 108]⟩) = false) : tyOk e = true := by
  unfold tyOk; cases h1 : eqS e ⟨#[105, 110, 116]⟩ <;> simp_all
set_option maxRecDepth 20000 in
set_option maxHeartbeats 1000000 in
theorem zeros1_pc {e : ByteArray} {d : List Int} (hd : d.length ≤ 1000000) : PC Tryd.prog 19 [.lit (.string e), .sl false 1 (ints .i64 d)] (aeV (zerosS e d)) := by
  have hz := sizeS_bd d
  refine pc_ofR E62_ok mixed (fun _ => [0, 1, 4, 5, 6, 7, 13, 21]) (rs := [.cell 4 35, .tmp 5]) Tryd.func19 rfl (by kernel_rfl) (by kernel_rfl) (Nat.le_of_ble_eq_true rfl) ?_
  simp only [initF_cons, initF_nil, Nat.reduceAdd]
  refine t_name fun KF => ?_
  unfold E62
  repeat' (first
    | with_reducible refine t_seq fun K => ?_
    | with_reducible refine t_block ?_
    | with_reducible refine t_scope ?_
    | with_reducible refine t_label ?_
    | with_reducible refine t_skip ?_
    | with_reducible refine t_exit ?_
    | with_reducible refine t_ret ?_
    | with_reducible refine t_k ?_
    | (with_reducible refine t_gF ?_)
    | ((first | with_reducible refine t_kE ?_ | with_reducible refine t_kD ?_ | with_reducible refine t_gS ?_ | with_reducible refine t_kL ?_ | (with_reducible refine t_kLE ?_ ?_; rotate_left) | with_reducible refine t_region fun K => ?_ | with_reducible refine t_draw (by kernel_rfl) fun K => ?_); simp only [go_sem, Int.cast_ofNat_Int, Nat.reduceEqDiff, reduceIte, Nat.reduceAdd, Nat.reduceMul, Nat.reduceLeDiff, Nat.reduceSub, Nat.reduceLT, Nat.zero_lt_succ, Int.reduceToNat, Int.reduceAdd, Int.reduceSub, Int.reduceMul, Int.reduceNeg, Int.reduceLT, Int.reduceLE, Int.reduceEq, Int.reduceBEq, Int.reduceBNe, Nat.reduceBEq, List.reduceReplicate, con9_f, con17_f, con9_c, con17_c, slK_sl, szV_def, rep_ints, aeV_def, arrV_def, List.length_replicate])
    | (with_reducible exact kp_nil)
    | (with_reducible exact Kp.refl _)
    | (with_reducible exact kp_to)
    | (with_reducible refine kp_cons ?_)
    | (with_reducible refine kp_arr ?_)
    | (with_reducible refine kp_app ?_)
    | ((with_reducible refine kp_skip ?_ ?_); rfl)
    | ((with_reducible refine t_cond fun A B => ?_); simp only [go_sem, Int.cast_ofNat_Int, Nat.reduceEqDiff, reduceIte, Nat.reduceAdd, Nat.reduceMul, Nat.reduceLeDiff, Nat.reduceSub, Nat.reduceLT, Nat.zero_lt_succ, Int.reduceToNat, Int.reduceAdd, Int.reduceSub, Int.reduceMul, Int.reduceNeg, Int.reduceLT, Int.reduceLE, Int.reduceEq, Int.reduceBEq, Int.reduceBNe, Nat.reduceBEq, List.reduceReplicate, con9_f, con17_f, con9_c, con17_c, slK_sl, szV_def, rep_ints, aeV_def, arrV_def, List.length_replicate]; first | (with_reducible refine A.h ?_) | (with_reducible refine B.h ?_) | (refine And.intro (fun hc => A.h ?_) (fun hc => B.h ?_)))
    | simp only [thenQ_n, thenQ_r, thenQ_e, blockQ_n, blockQ_r, blockQ_e, scopeQ_n, scopeQ_r, scopeQ_e, Nat.reduceEqDiff, reduceIte]
    | (with_reducible refine And.intro ?_ ?_)
    | with_reducible intro vr)
  all_goals try (first | (with_reducible assumption) | (intros; (try simp only [Bool.and_eq_true, Bool.or_eq_true, Bool.not_eq_true', decide_eq_true_eq, decide_eq_false_iff_not, beq_iff_eq, bne_iff_ne, ne_eq, inI64, List.length_append] at *) <;> omega))
  all_goals ((first | refine end_retE ?_ | refine end_normE ?_); simp only [fin, go_sem, Int.cast_ofNat_Int, Nat.reduceEqDiff, reduceIte, Nat.reduceAdd, Nat.reduceMul, Nat.reduceLeDiff, Nat.reduceSub, Nat.reduceLT, Nat.zero_lt_succ, Int.reduceToNat, Int.reduceAdd, Int.reduceSub, Int.reduceMul, Int.reduceNeg, Int.reduceLT, Int.reduceLE, Int.reduceEq, Int.reduceBEq, Int.reduceBNe, Nat.reduceBEq, List.reduceReplicate])
  · simp only [zerosS, tyOk_t ‹_›, if_true]
    exact nilAe_le
  · simp only [zerosS, tyOk_f ‹_›]
    rw [if_neg (by simp), if_pos (by simpa using ‹((sizeS d).snd != 0) = true›)]
    exact nilAe_le
  · simp only [zerosS, tyOk_f ‹_›]
    rw [if_neg (by simp), if_neg (by simpa using ‹((sizeS d).snd != 0) = false›)]
    exact LeA.refl _
noncomputable def con19 : PCon Tryd.prog where
  f := 19
  c := fun
    | [.lit (.string e), xd] => match slK .i64 xd with | some d => some (d.length ≤ 1000000, aeV (zerosS e d)) | _ => none
    | _ => none
  ok := by
    intro args p r hc hp
    split at hc
    · split at hc
      · rename_i hd
        cases hc
        exact PC.weak (zeros1_pc hp) ⟨LeA.refl _, slK_le hd, trivial⟩
      · cases hc
    · cases hc
  fk := fk19
theorem con19_f : con19.f = 19 := rfl
theorem con19_c {e : ByteArray} {xd : AV} : con19.c [.lit (.string e), xd] = match slK .i64 xd with | some d => some (d.length ≤ 1000000, aeV (zerosS e d)) | _ => none := rfl
noncomputable def con36 : PCon Tryd.prog where
  f := 36
  c := fun
    | [xa, xix] => match arrOf xa, slK .i64 xix with | some a, some ix => some (okA a ∧ ix.length ≤ 1000000, szV (placeS a ix)) | _, _ => none
    | _ => none
  ok := by
    intro args p r hc hp
    split at hc
    · split at hc
      · rename_i ha hix
        cases hc
        exact PC.weak ((fun hp : _ ∧ _ => place_pc hp.1 hp.2) hp) ⟨arrOf_le ha, slK_le hix, trivial⟩
      · cases hc
    · cases hc
  fk := fk36
theorem con36_f : con36.f = 36 := rfl
theorem con36_c {xa : AV} {xix : AV} : con36.c [xa, xix] = match arrOf xa, slK .i64 xix with | some a, some ix => some (okA a ∧ ix.length ≤ 1000000, szV (placeS a ix)) | _, _ => none := rfl
noncomputable def E63 : Env := envJ (P := Tryd.prog) jk zer (fun _ => false) (fun _ => false) [con36, con23, con12] []
theorem E63_ok : EnvOk Tryd.prog E63 := envJOk zer_ok
set_option maxRecDepth 20000 in
set_option maxHeartbeats 1000000 in
theorem at_pc {a : Arr} {ix : List Int} (ha : okA a) (hi : ix.length ≤ 1000000) : PC Tryd.prog 25 [arrV a, .sl false 1 (ints .i64 ix)] (szV (atA a ix)) := by
  have ha1 := ha.1
  have ha2 := ha.2
  refine pc_ofR E63_ok mixed (fun _ => [0, 1, 2, 4, 5, 6, 7, 15]) (rs := [.tmp 4, .tmp 5]) Tryd.func25 rfl (by kernel_rfl) (by kernel_rfl) (Nat.le_of_ble_eq_true rfl) ?_
  simp only [initF_cons, initF_nil, Nat.reduceAdd]
  refine t_name fun KF => ?_
  unfold E63
  have hb := place_bd (a := a) (ix := ix)
  repeat' (first
    | with_reducible refine t_seq fun K => ?_
    | with_reducible refine t_block ?_
    | with_reducible refine t_scope ?_
    | with_reducible refine t_label ?_
    | with_reducible refine t_skip ?_
    | with_reducible refine t_exit ?_
    | with_reducible refine t_ret ?_
    | with_reducible refine t_k ?_
    | (with_reducible refine t_gF ?_)
    | ((first | with_reducible refine t_kE ?_ | with_reducible refine t_kD ?_ | with_reducible refine t_gS ?_ | with_reducible refine t_kL ?_ | (with_reducible refine t_kLE ?_ ?_; rotate_left) | with_reducible refine t_region fun K => ?_ | with_reducible refine t_draw (by kernel_rfl) fun K => ?_); simp only [go_sem, Int.cast_ofNat_Int, Nat.reduceEqDiff, reduceIte, Nat.reduceAdd, Nat.reduceMul, Nat.reduceLeDiff, Nat.reduceSub, Nat.reduceLT, Nat.zero_lt_succ, Int.reduceToNat, Int.reduceAdd, Int.reduceSub, Int.reduceMul, Int.reduceNeg, Int.reduceLT, Int.reduceLE, Int.reduceEq, Int.reduceBEq, Int.reduceBNe, Nat.reduceBEq, List.reduceReplicate, con36_f, con23_f, con12_f, con36_c, arrOf_agg, arrV_def, slK_sl, szV_def])
    | (with_reducible exact kp_nil)
    | (with_reducible exact Kp.refl _)
    | (with_reducible exact kp_to)
    | (with_reducible refine kp_cons ?_)
    | (with_reducible refine kp_arr ?_)
    | (with_reducible refine kp_app ?_)
    | ((with_reducible refine kp_skip ?_ ?_); rfl)
    | ((with_reducible refine t_cond fun A B => ?_); simp only [go_sem, Int.cast_ofNat_Int, Nat.reduceEqDiff, reduceIte, Nat.reduceAdd, Nat.reduceMul, Nat.reduceLeDiff, Nat.reduceSub, Nat.reduceLT, Nat.zero_lt_succ, Int.reduceToNat, Int.reduceAdd, Int.reduceSub, Int.reduceMul, Int.reduceNeg, Int.reduceLT, Int.reduceLE, Int.reduceEq, Int.reduceBEq, Int.reduceBNe, Nat.reduceBEq, List.reduceReplicate, con36_f, con23_f, con12_f, con36_c, arrOf_agg, arrV_def, slK_sl, szV_def]; first | (with_reducible refine A.h ?_) | (with_reducible refine B.h ?_) | (refine And.intro (fun hc => A.h ?_) (fun hc => B.h ?_)))
    | simp only [thenQ_n, thenQ_r, thenQ_e, blockQ_n, blockQ_r, blockQ_e, scopeQ_n, scopeQ_r, scopeQ_e, Nat.reduceEqDiff, reduceIte]
    | (with_reducible refine And.intro ?_ ?_)
    | with_reducible intro vr)
  all_goals try exact ha
  all_goals try (have hb := hb (by simp_all); first | exact hb.1 | exact hb.2)
  all_goals try (first | (with_reducible assumption) | (intros; (try simp only [Bool.and_eq_true, Bool.or_eq_true, Bool.not_eq_true', decide_eq_true_eq, decide_eq_false_iff_not, beq_iff_eq, bne_iff_ne, ne_eq, inI64, List.length_append] at *) <;> omega))
  all_goals ((first | refine end_retE ?_ | refine end_normE ?_); simp only [fin, go_sem, Int.cast_ofNat_Int, Nat.reduceEqDiff, reduceIte, Nat.reduceAdd, Nat.reduceMul, Nat.reduceLeDiff, Nat.reduceSub, Nat.reduceLT, Nat.zero_lt_succ, Int.reduceToNat, Int.reduceAdd, Int.reduceSub, Int.reduceMul, Int.reduceNeg, Int.reduceLT, Int.reduceLE, Int.reduceEq, Int.reduceBEq, Int.reduceBNe, Nat.reduceBEq, List.reduceReplicate])
  all_goals simp_all [szV_def, atA, LeA.refl]
set_option maxRecDepth 20000 in
set_option maxHeartbeats 1000000 in
theorem rat_pc {a : Arr} {ix : List Int} (ha : okA a) (hi : ix.length ≤ 1000000) : PC Tryd.prog 26 [arrV a, .sl false 1 (ints .i64 ix)] (szV (atA a ix)) := by
  have ha1 := ha.1
  have ha2 := ha.2
  refine pc_ofR E63_ok mixed (fun _ => [0, 1, 2, 4, 5, 6, 7, 10, 19]) (rs := [.tmp 4, .tmp 5]) Tryd.func26 rfl (by kernel_rfl) (by kernel_rfl) (Nat.le_of_ble_eq_true rfl) ?_
  simp only [initF_cons, initF_nil, Nat.reduceAdd]
  refine t_name fun KF => ?_
  unfold E63
  have hb := place_bd (a := a) (ix := ix)
  repeat' (first
    | with_reducible refine t_seq fun K => ?_
    | with_reducible refine t_block ?_
    | with_reducible refine t_scope ?_
    | with_reducible refine t_label ?_
    | with_reducible refine t_skip ?_
    | with_reducible refine t_exit ?_
    | with_reducible refine t_ret ?_
    | with_reducible refine t_k ?_
    | (with_reducible refine t_gF ?_)
    | ((first | with_reducible refine t_kE ?_ | with_reducible refine t_kD ?_ | with_reducible refine t_gS ?_ | with_reducible refine t_kL ?_ | (with_reducible refine t_kLE ?_ ?_; rotate_left) | with_reducible refine t_region fun K => ?_ | with_reducible refine t_draw (by kernel_rfl) fun K => ?_); simp only [go_sem, Int.cast_ofNat_Int, Nat.reduceEqDiff, reduceIte, Nat.reduceAdd, Nat.reduceMul, Nat.reduceLeDiff, Nat.reduceSub, Nat.reduceLT, Nat.zero_lt_succ, Int.reduceToNat, Int.reduceAdd, Int.reduceSub, Int.reduceMul, Int.reduceNeg, Int.reduceLT, Int.reduceLE, Int.reduceEq, Int.reduceBEq, Int.reduceBNe, Nat.reduceBEq, List.reduceReplicate, con36_f, con23_f, con12_f, con23_c, con12_c, arrOf_agg, arrV_def, slK_sl, szV_def])
    | (with_reducible exact kp_nil)
    | (with_reducible exact Kp.refl _)
    | (with_reducible exact kp_to)
    | (with_reducible refine kp_cons ?_)
    | (with_reducible refine kp_arr ?_)
    | (with_reducible refine kp_app ?_)
    | ((with_reducible refine kp_skip ?_ ?_); rfl)
    | ((with_reducible refine t_cond fun A B => ?_); simp only [go_sem, Int.cast_ofNat_Int, Nat.reduceEqDiff, reduceIte, Nat.reduceAdd, Nat.reduceMul, Nat.reduceLeDiff, Nat.reduceSub, Nat.reduceLT, Nat.zero_lt_succ, Int.reduceToNat, Int.reduceAdd, Int.reduceSub, Int.reduceMul, Int.reduceNeg, Int.reduceLT, Int.reduceLE, Int.reduceEq, Int.reduceBEq, Int.reduceBNe, Nat.reduceBEq, List.reduceReplicate, con36_f, con23_f, con12_f, con23_c, con12_c, arrOf_agg, arrV_def, slK_sl, szV_def]; first | (with_reducible refine A.h ?_) | (with_reducible refine B.h ?_) | (refine And.intro (fun hc => A.h ?_) (fun hc => B.h ?_)))
    | simp only [thenQ_n, thenQ_r, thenQ_e, blockQ_n, blockQ_r, blockQ_e, scopeQ_n, scopeQ_r, scopeQ_e, Nat.reduceEqDiff, reduceIte]
    | (with_reducible refine And.intro ?_ ?_)
    | with_reducible intro vr)
  all_goals try (simp only [placeS] at hb; simp_all; done)
  all_goals try (first | (with_reducible assumption) | (intros; (try simp only [Bool.and_eq_true, Bool.or_eq_true, Bool.not_eq_true', decide_eq_true_eq, decide_eq_false_iff_not, beq_iff_eq, bne_iff_ne, ne_eq, inI64, List.length_append] at *) <;> omega))
  all_goals ((first | refine end_retE ?_ | refine end_normE ?_); simp only [fin, go_sem, Int.cast_ofNat_Int, Nat.reduceEqDiff, reduceIte, Nat.reduceAdd, Nat.reduceMul, Nat.reduceLeDiff, Nat.reduceSub, Nat.reduceLT, Nat.zero_lt_succ, Int.reduceToNat, Int.reduceAdd, Int.reduceSub, Int.reduceMul, Int.reduceNeg, Int.reduceLT, Int.reduceLE, Int.reduceEq, Int.reduceBEq, Int.reduceBNe, Nat.reduceBEq, List.reduceReplicate])
  all_goals simp_all [szV_def, atA, placeS, LeA.refl]
noncomputable def E64 : Env := envJ (P := Tryd.prog) jk zer (fun _ => false) (fun _ => false) [] []
theorem E64_ok : EnvOk Tryd.prog E64 := envJOk zer_ok
theorem clone_ec {σ : List AObj} {l : List Int} {k : AV → List AObj → Prop} (hl : l.length ≤ 1000000) (hk : k (.arr σ.length 0) (σ ++ [.arr 3 1 (ints .i64 l) 0 false])) : EC Tryd.prog 33 [.sl false 1 (ints .i64 l)] σ k := by
  refine EC.nilArr 3 1 ?_
  refine ec_ofR E64_ok mixed (fun _ => [0, 2, 4]) (rs := [.tmp 2]) Tryd.func33 rfl (by kernel_rfl) (by kernel_rfl) (Nat.le_of_ble_eq_true rfl) ?_
  simp only [initF_cons, initF_nil, Nat.reduceAdd]
  refine t_name fun KF => ?_
  unfold E64
  repeat' (first
    | with_reducible refine t_seq fun K => ?_
    | with_reducible refine t_block ?_
    | with_reducible refine t_scope ?_
    | with_reducible refine t_label ?_
    | with_reducible refine t_skip ?_
    | with_reducible refine t_exit ?_
    | with_reducible refine t_ret ?_
    | with_reducible refine t_k ?_
    | (with_reducible refine t_gF ?_)
    | ((first | with_reducible refine t_kE ?_ | with_reducible refine t_kD ?_ | with_reducible refine t_gS ?_ | with_reducible refine t_kL ?_ | (with_reducible refine t_kLE ?_ ?_; rotate_left) | with_reducible refine t_region fun K => ?_ | with_reducible refine t_draw (by kernel_rfl) fun K => ?_); simp only [go_sem, Int.cast_ofNat_Int, Nat.reduceEqDiff, reduceIte, Nat.reduceAdd, Nat.reduceMul, Nat.reduceLeDiff, Nat.reduceSub, Nat.reduceLT, Nat.zero_lt_succ, Int.reduceToNat, Int.reduceAdd, Int.reduceSub, Int.reduceMul, Int.reduceNeg, Int.reduceLT, Int.reduceLE, Int.reduceEq, Int.reduceBEq, Int.reduceBNe, Nat.reduceBEq, List.reduceReplicate])
    | (with_reducible exact kp_nil)
    | (with_reducible exact Kp.refl _)
    | (with_reducible exact kp_to)
    | (with_reducible refine kp_cons ?_)
    | (with_reducible refine kp_arr ?_)
    | (with_reducible refine kp_app ?_)
    | ((with_reducible refine kp_skip ?_ ?_); rfl)
    | ((with_reducible refine t_cond fun A B => ?_); simp only [go_sem, Int.cast_ofNat_Int, Nat.reduceEqDiff, reduceIte, Nat.reduceAdd, Nat.reduceMul, Nat.reduceLeDiff, Nat.reduceSub, Nat.reduceLT, Nat.zero_lt_succ, Int.reduceToNat, Int.reduceAdd, Int.reduceSub, Int.reduceMul, Int.reduceNeg, Int.reduceLT, Int.reduceLE, Int.reduceEq, Int.reduceBEq, Int.reduceBNe, Nat.reduceBEq, List.reduceReplicate]; first | (with_reducible refine A.h ?_) | (with_reducible refine B.h ?_) | (refine And.intro (fun hc => A.h ?_) (fun hc => B.h ?_)))
    | simp only [thenQ_n, thenQ_r, thenQ_e, blockQ_n, blockQ_r, blockQ_e, scopeQ_n, scopeQ_r, scopeQ_e, Nat.reduceEqDiff, reduceIte]
    | (with_reducible refine And.intro ?_ ?_)
    | with_reducible intro vr)
  all_goals try (first | (with_reducible assumption) | (intros; (try simp only [Bool.and_eq_true, Bool.or_eq_true, Bool.not_eq_true', decide_eq_true_eq, decide_eq_false_iff_not, beq_iff_eq, bne_iff_ne, ne_eq, inI64, List.length_append] at *) <;> omega))
  all_goals ((first | refine end_retE ?_ | refine end_normE ?_); simp only [fin, go_sem, Int.cast_ofNat_Int, Nat.reduceEqDiff, reduceIte, Nat.reduceAdd, Nat.reduceMul, Nat.reduceLeDiff, Nat.reduceSub, Nat.reduceLT, Nat.zero_lt_succ, Int.reduceToNat, Int.reduceAdd, Int.reduceSub, Int.reduceMul, Int.reduceNeg, Int.reduceLT, Int.reduceLE, Int.reduceEq, Int.reduceBEq, Int.reduceBNe, Nat.reduceBEq, List.reduceReplicate])
  · exact .inr (by simp_all [ints])
  · exact .inl hk
theorem copy_ec {σ : List AObj} {l : List Int} {k : AV → List AObj → Prop} (hl : l.length ≤ 1000000) (hk : k (.arr σ.length 0) (σ ++ [.arr 3 1 (ints .i64 l) 0 false])) : EC Tryd.prog 34 [.sl false 1 (ints .i64 l)] σ k := by
  refine ec_ofR E64_ok mixed (fun _ => [0, 2]) (rs := [.tmp 2]) Tryd.func34 rfl (by kernel_rfl) (by kernel_rfl) (Nat.le_of_ble_eq_true rfl) ?_
  simp only [initF_cons, initF_nil, Nat.reduceAdd]
  refine t_name fun KF => ?_
  unfold E64
  repeat' (first
    | with_reducible refine t_seq fun K => ?_
    | with_reducible refine t_block ?_
    | with_reducible refine t_scope ?_
    | with_reducible refine t_label ?_
    | with_reducible refine t_skip ?_
    | with_reducible refine t_exit ?_
    | with_reducible refine t_ret ?_
    | with_reducible refine t_k ?_
    | (with_reducible refine t_gF ?_)
    | ((first | with_reducible refine t_kE ?_ | with_reducible refine t_kD ?_ | with_reducible refine t_gS ?_ | with_reducible refine t_kL ?_ | (with_reducible refine t_kLE ?_ ?_; rotate_left) | with_reducible refine t_region fun K => ?_ | with_reducible refine t_draw (by kernel_rfl) fun K => ?_); simp only [go_sem, Int.cast_ofNat_Int, Nat.reduceEqDiff, reduceIte, Nat.reduceAdd, Nat.reduceMul, Nat.reduceLeDiff, Nat.reduceSub, Nat.reduceLT, Nat.zero_lt_succ, Int.reduceToNat, Int.reduceAdd, Int.reduceSub, Int.reduceMul, Int.reduceNeg, Int.reduceLT, Int.reduceLE, Int.reduceEq, Int.reduceBEq, Int.reduceBNe, Nat.reduceBEq, List.reduceReplicate])
    | (with_reducible exact kp_nil)
    | (with_reducible exact Kp.refl _)
    | (with_reducible exact kp_to)
    | (with_reducible refine kp_cons ?_)
    | (with_reducible refine kp_arr ?_)
    | (with_reducible refine kp_app ?_)
    | ((with_reducible refine kp_skip ?_ ?_); rfl)
    | ((with_reducible refine t_cond fun A B => ?_); simp only [go_sem, Int.cast_ofNat_Int, Nat.reduceEqDiff, reduceIte, Nat.reduceAdd, Nat.reduceMul, Nat.reduceLeDiff, Nat.reduceSub, Nat.reduceLT, Nat.zero_lt_succ, Int.reduceToNat, Int.reduceAdd, Int.reduceSub, Int.reduceMul, Int.reduceNeg, Int.reduceLT, Int.reduceLE, Int.reduceEq, Int.reduceBEq, Int.reduceBNe, Nat.reduceBEq, List.reduceReplicate]; first | (with_reducible refine A.h ?_) | (with_reducible refine B.h ?_) | (refine And.intro (fun hc => A.h ?_) (fun hc => B.h ?_)))
    | simp only [thenQ_n, thenQ_r, thenQ_e, blockQ_n, blockQ_r, blockQ_e, scopeQ_n, scopeQ_r, scopeQ_e, Nat.reduceEqDiff, reduceIte]
    | (with_reducible refine And.intro ?_ ?_)
    | with_reducible intro vr)
  all_goals try (first | (with_reducible assumption) | (intros; (try simp only [Bool.and_eq_true, Bool.or_eq_true, Bool.not_eq_true', decide_eq_true_eq, decide_eq_false_iff_not, beq_iff_eq, bne_iff_ne, ne_eq, inI64, List.length_append] at *) <;> omega))
  all_goals ((first | refine end_retE ?_ | refine end_normE ?_); simp only [fin, go_sem, Int.cast_ofNat_Int, Nat.reduceEqDiff, reduceIte, Nat.reduceAdd, Nat.reduceMul, Nat.reduceLeDiff, Nat.reduceSub, Nat.reduceLT, Nat.zero_lt_succ, Int.reduceToNat, Int.reduceAdd, Int.reduceSub, Int.reduceMul, Int.reduceNeg, Int.reduceLT, Int.reduceLE, Int.reduceEq, Int.reduceBEq, Int.reduceBNe, Nat.reduceBEq, List.reduceReplicate])
  exact hk
noncomputable def ecn33 : ECon Tryd.prog where
  f := 33
  c := fun args σ k => match args with
    | [xl] => match slK .i64 xl with | some l => l.length ≤ 1000000 ∧ k (.arr σ.length 0) (σ ++ [.arr 3 1 (ints .i64 l) 0 false]) | _ => False
    | _ => False
  ok := by
    intro args σ k h
    split at h
    · split at h
      · rename_i hl
        exact EC.weak (clone_ec h.1 h.2) (LeRL.cons (slK_leR hl) (LeRL.nil))
      · exact h.elim
    · exact h.elim
  fk := fk33
theorem ecn33_f : ecn33.f = 33 := rfl
theorem ecn33_c {xl : AV} {σ : List AObj} {k : AV → List AObj → Prop} : ecn33.c [xl] σ k = match slK .i64 xl with | some l => l.length ≤ 1000000 ∧ k (.arr σ.length 0) (σ ++ [.arr 3 1 (ints .i64 l) 0 false]) | _ => False := rfl
noncomputable def ecn34 : ECon Tryd.prog where
  f := 34
  c := fun args σ k => match args with
    | [xl] => match slK .i64 xl with | some l => l.length ≤ 1000000 ∧ k (.arr σ.length 0) (σ ++ [.arr 3 1 (ints .i64 l) 0 false]) | _ => False
    | _ => False
  ok := by
    intro args σ k h
    split at h
    · split at h
      · rename_i hl
        exact EC.weak (copy_ec h.1 h.2) (LeRL.cons (slK_leR hl) (LeRL.nil))
      · exact h.elim
    · exact h.elim
  fk := fk34
theorem ecn34_f : ecn34.f = 34 := rfl
theorem ecn34_c {xl : AV} {σ : List AObj} {k : AV → List AObj → Prop} : ecn34.c [xl] σ k = match slK .i64 xl with | some l => l.length ≤ 1000000 ∧ k (.arr σ.length 0) (σ ++ [.arr 3 1 (ints .i64 l) 0 false]) | _ => False := rfl
noncomputable def E65 : Env := envJ (P := Tryd.prog) jk zer (fun _ => false) (fun _ => false) [con9, con32] [ecn33]
theorem E65_ok : EnvOk Tryd.prog E65 := envJOk zer_ok
set_option maxRecDepth 20000 in
set_option maxHeartbeats 2000000 in
theorem of_ec {σ : List AObj} {e : ByteArray} {d x : List Int} {k : AV → List AObj → Prop} (hd : d.length ≤ 1000000) (hx : x.length ≤ 1000000) (h0 : ofE ⟨e, d, x⟩ = 0)
    (hk : k (.tup [.agg [.lit (.string e), .arr (σ.length + 1) 0, .arr (σ.length + 2) 0], .lit (.int .i64 0)]) (σ ++ [.box 35 [.lit (.string e), .arr (σ.length + 1) 0, .arr (σ.length + 2) 0], .arr 3 1 (ints .i64 d) 0 false, .arr 3 1 (ints .i64 x) 0 false])) :
    EC Tryd.prog 17 [.lit (.string e), .sl false 1 (ints .i64 d), .sl false 1 (ints .i64 x)] σ k := by
  have hz := sizeS_bd d
  refine ec_ofR E65_ok mixed (fun _ => [0, 1, 2, 6, 7, 8, 9, 15, 22, 27, 33]) (rs := [.cell 6 35, .tmp 7]) Tryd.func17 rfl (by kernel_rfl) (by kernel_rfl) (Nat.le_of_ble_eq_true rfl) ?_
  simp only [initF_cons, initF_nil, Nat.reduceAdd]
  refine t_name fun KF => ?_
  unfold E65
  repeat' (first
    | with_reducible refine t_seq fun K => ?_
    | with_reducible refine t_block ?_
    | with_reducible refine t_scope ?_
    | with_reducible refine t_label ?_
    | with_reducible refine t_skip ?_
    | with_reducible refine t_exit ?_
    | with_reducible refine t_ret ?_
    | with_reducible refine t_k ?_
    | (with_reducible refine t_gF ?_)
    | ((first | with_reducible refine t_kE ?_ | with_reducible refine t_kD ?_ | with_reducible refine t_gS ?_ | with_reducible refine t_kL ?_ | (with_reducible refine t_kLE ?_ ?_; rotate_left) | with_reducible refine t_region fun K => ?_ | with_reducible refine t_draw (by kernel_rfl) fun K => ?_); simp only [go_sem, Int.cast_ofNat_Int, Nat.reduceEqDiff, reduceIte, Nat.reduceAdd, Nat.reduceMul, Nat.reduceLeDiff, Nat.reduceSub, Nat.reduceLT, Nat.zero_lt_succ, Int.reduceToNat, Int.reduceAdd, Int.reduceSub, Int.reduceMul, Int.reduceNeg, Int.reduceLT, Int.reduceLE, Int.reduceEq, Int.reduceBEq, Int.reduceBNe, Nat.reduceBEq, List.reduceReplicate, ecn33_f, con9_f, con32_f, ecn33_c, con9_c, con32_c, slK_sl, szV_def])
    | (with_reducible exact kp_nil)
    | (with_reducible exact Kp.refl _)
    | (with_reducible exact kp_to)
    | (with_reducible refine kp_cons ?_)
    | (with_reducible refine kp_arr ?_)
    | (with_reducible refine kp_app ?_)
    | ((with_reducible refine kp_skip ?_ ?_); rfl)
    | ((with_reducible refine t_cond fun A B => ?_); simp only [go_sem, Int.cast_ofNat_Int, Nat.reduceEqDiff, reduceIte, Nat.reduceAdd, Nat.reduceMul, Nat.reduceLeDiff, Nat.reduceSub, Nat.reduceLT, Nat.zero_lt_succ, Int.reduceToNat, Int.reduceAdd, Int.reduceSub, Int.reduceMul, Int.reduceNeg, Int.reduceLT, Int.reduceLE, Int.reduceEq, Int.reduceBEq, Int.reduceBNe, Nat.reduceBEq, List.reduceReplicate, ecn33_f, con9_f, con32_f, ecn33_c, con9_c, con32_c, slK_sl, szV_def]; first | (with_reducible refine A.h ?_) | (with_reducible refine B.h ?_) | (refine And.intro (fun hc => A.h ?_) (fun hc => B.h ?_)))
    | simp only [thenQ_n, thenQ_r, thenQ_e, blockQ_n, blockQ_r, blockQ_e, scopeQ_n, scopeQ_r, scopeQ_e, Nat.reduceEqDiff, reduceIte]
    | (with_reducible refine And.intro ?_ ?_)
    | with_reducible intro vr)
  all_goals try (first | (with_reducible assumption) | (intros; (try simp only [Bool.and_eq_true, Bool.or_eq_true, Bool.not_eq_true', decide_eq_true_eq, decide_eq_false_iff_not, beq_iff_eq, bne_iff_ne, ne_eq, inI64, List.length_append] at *) <;> omega))
  all_goals ((first | refine end_retE ?_ | refine end_normE ?_); simp only [fin, go_sem, Int.cast_ofNat_Int, Nat.reduceEqDiff, reduceIte, Nat.reduceAdd, Nat.reduceMul, Nat.reduceLeDiff, Nat.reduceSub, Nat.reduceLT, Nat.zero_lt_succ, Int.reduceToNat, Int.reduceAdd, Int.reduceSub, Int.reduceMul, Int.reduceNeg, Int.reduceLT, Int.reduceLE, Int.reduceEq, Int.reduceBEq, Int.reduceBNe, Nat.reduceBEq, List.reduceReplicate])
  · exfalso; simp_all [ofE, sInt, sBool]
  · exfalso; revert h0; simp_all [ofE, sInt, sBool]; split <;> simp_all
  · exfalso; revert h0; simp_all [ofE, sInt, sBool]; split <;> simp_all
  · exfalso; revert h0; simp_all [ofE, sInt, sBool]; split <;> simp_all
  · exact hk
noncomputable def ecn17 : ECon Tryd.prog where
  f := 17
  c := fun args σ k => match args with
    | [.lit (.string e), xd, xx] => match slK .i64 xd, slK .i64 xx with | some d, some x => d.length ≤ 1000000 ∧ x.length ≤ 1000000 ∧ ofE ⟨e, d, x⟩ = 0 ∧ k (.tup [.agg [.lit (.string e), .arr (σ.length + 1) 0, .arr (σ.length + 2) 0], .lit (.int .i64 0)]) (σ ++ [.box 35 [.lit (.string e), .arr (σ.length + 1) 0, .arr (σ.length + 2) 0], .arr 3 1 (ints .i64 d) 0 false, .arr 3 1 (ints .i64 x) 0 false]) | _, _ => False
    | _ => False
  ok := by
    intro args σ k h
    split at h
    · split at h
      · rename_i hd hx
        exact EC.weak (of_ec h.1 h.2.1 h.2.2.1 h.2.2.2) (LeRL.cons (LeR.refl _) (LeRL.cons (slK_leR hd) (LeRL.cons (slK_leR hx) (LeRL.nil))))
      · exact h.elim
    · exact h.elim
  fk := fk17
theorem ecn17_f : ecn17.f = 17 := rfl
theorem ecn17_c {e : ByteArray} {xd : AV} {xx : AV} {σ : List AObj} {k : AV → List AObj → Prop} : ecn17.c [.lit (.string e), xd, xx] σ k = match slK .i64 xd, slK .i64 xx with | some d, some x => d.length ≤ 1000000 ∧ x.length ≤ 1000000 ∧ ofE ⟨e, d, x⟩ = 0 ∧ k (.tup [.agg [.lit (.string e), .arr (σ.length + 1) 0, .arr (σ.length + 2) 0], .lit (.int .i64 0)]) (σ ++ [.box 35 [.lit (.string e), .arr (σ.length + 1) 0, .arr (σ.length + 2) 0], .arr 3 1 (ints .i64 d) 0 false, .arr 3 1 (ints .i64 x) 0 false]) | _, _ => False := rfl
noncomputable def E66 : Env := envJ (P := Tryd.prog) jk zer (fun _ => false) (fun _ => false) [con36, con37] [ecn17]
theorem E66_ok : EnvOk Tryd.prog E66 := envJOk zer_ok
theorem arr_eta (a : Arr) : (⟨a.e, a.d, a.x⟩ : Arr) = a := rfl
theorem nil_of {e : Int} {q : Arr × Int} (h : q = (nilA, e)) : LeA (.tup [.agg [.lit (.string ByteArray.empty), .sl true 1 [], .sl true 1 []], .lit (.int .i64 e)]) (aeV q) := by subst h; exact nilAe_le
theorem arr_of {b c : Bool} {s : ByteArray} {d x : List Int} {e : Int} {q : Arr × Int} (h : q = (⟨s, d, x⟩, e)) : LeA (.tup [.agg [.lit (.string s), .sl b 1 (ints .i64 d), .sl c 1 (ints .i64 x)], .lit (.int .i64 e)]) (aeV q) := by
  subst h; exact LeA.tup ⟨LeA.agg ⟨LeA.refl _, LeA.full _ _ _, LeA.full _ _ _, trivial⟩, LeA.refl _, trivial⟩
set_option maxRecDepth 20000 in
set_option maxHeartbeats 2000000 in
theorem set_pc {a : Arr} {ix : List Int} {n : Int} (ha : okA a) (hi : ix.length ≤ 1000000) : PC Tryd.prog 27 [arrV a, .sl false 1 (ints .i64 ix), .lit (.int .i64 n)] (aeV (setA' a ix n)) := by
  have ha1 := ha.1
  have ha2 := ha.2
  refine pc_ofR E66_ok mixed (fun _ => [0, 1, 2, 3, 6, 7, 8, 9, 10, 19, 26]) (rs := [.cell 6 35, .tmp 7]) Tryd.func27 rfl (by kernel_rfl) (by kernel_rfl) (Nat.le_of_ble_eq_true rfl) ?_
  simp only [initF_cons, initF_nil, Nat.reduceAdd]
  refine t_name fun KF => ?_
  unfold E66
  have hb := place_bd (a := a) (ix := ix)
  have hp := place_ok (a := a) (ix := ix)
  repeat' (first
    | with_reducible refine t_seq fun K => ?_
    | with_reducible refine t_block ?_
    | with_reducible refine t_scope ?_
    | with_reducible refine t_label ?_
    | with_reducible refine t_skip ?_
    | with_reducible refine t_exit ?_
    | with_reducible refine t_ret ?_
    | with_reducible refine t_k ?_
    | (with_reducible refine t_gF ?_)
    | ((first | with_reducible refine t_kE ?_ | with_reducible refine t_kD ?_ | with_reducible refine t_gS ?_ | with_reducible refine t_kL ?_ | (with_reducible refine t_kLE ?_ ?_; rotate_left) | with_reducible refine t_region fun K => ?_ | with_reducible refine t_draw (by kernel_rfl) fun K => ?_); simp only [go_sem, Int.cast_ofNat_Int, Nat.reduceEqDiff, reduceIte, Nat.reduceAdd, Nat.reduceMul, Nat.reduceLeDiff, Nat.reduceSub, Nat.reduceLT, Nat.zero_lt_succ, Int.reduceToNat, Int.reduceAdd, Int.reduceSub, Int.reduceMul, Int.reduceNeg, Int.reduceLT, Int.reduceLE, Int.reduceEq, Int.reduceBEq, Int.reduceBNe, Nat.reduceBEq, List.reduceReplicate, con36_f, con37_f, ecn17_f, con36_c, con37_c, ecn17_c, arrOf_agg, arrV_def, slK_sl, szV_def, arr_eta])
    | (with_reducible exact kp_nil)
    | (with_reducible exact Kp.refl _)
    | (with_reducible exact kp_to)
    | (with_reducible refine kp_cons ?_)
    | (with_reducible refine kp_arr ?_)
    | (with_reducible refine kp_app ?_)
    | ((with_reducible refine kp_skip ?_ ?_); rfl)
    | ((with_reducible refine t_cond fun A B => ?_); simp only [go_sem, Int.cast_ofNat_Int, Nat.reduceEqDiff, reduceIte, Nat.reduceAdd, Nat.reduceMul, Nat.reduceLeDiff, Nat.reduceSub, Nat.reduceLT, Nat.zero_lt_succ, Int.reduceToNat, Int.reduceAdd, Int.reduceSub, Int.reduceMul, Int.reduceNeg, Int.reduceLT, Int.reduceLE, Int.reduceEq, Int.reduceBEq, Int.reduceBNe, Nat.reduceBEq, List.reduceReplicate, con36_f, con37_f, ecn17_f, con36_c, con37_c, ecn17_c, arrOf_agg, arrV_def, slK_sl, szV_def, arr_eta]; first | (with_reducible refine A.h ?_) | (with_reducible refine B.h ?_) | (refine And.intro (fun hc => A.h ?_) (fun hc => B.h ?_)))
    | simp only [thenQ_n, thenQ_r, thenQ_e, blockQ_n, blockQ_r, blockQ_e, scopeQ_n, scopeQ_r, scopeQ_e, Nat.reduceEqDiff, reduceIte]
    | (with_reducible refine And.intro ?_ ?_)
    | with_reducible intro vr)
  all_goals try exact ha
  all_goals try (have hb := hb (by simp_all); have hp := hp (by simp_all); first | exact hb.1 | exact hb.2 | exact hp | omega)
  all_goals try (first | (with_reducible assumption) | (intros; (try simp only [Bool.and_eq_true, Bool.or_eq_true, Bool.not_eq_true', decide_eq_true_eq, decide_eq_false_iff_not, beq_iff_eq, bne_iff_ne, ne_eq, inI64, List.length_append] at *) <;> omega))
  all_goals ((first | refine end_retE ?_ | refine end_normE ?_); simp only [fin, go_sem, Int.cast_ofNat_Int, Nat.reduceEqDiff, reduceIte, Nat.reduceAdd, Nat.reduceMul, Nat.reduceLeDiff, Nat.reduceSub, Nat.reduceLT, Nat.zero_lt_succ, Int.reduceToNat, Int.reduceAdd, Int.reduceSub, Int.reduceMul, Int.reduceNeg, Int.reduceLT, Int.reduceLE, Int.reduceEq, Int.reduceBEq, Int.reduceBNe, Nat.reduceBEq, List.reduceReplicate])
  · exact nil_of (by simp_all [setA'])
  · exact nil_of (by simp_all [setA'])
  · exact arr_of (by simp_all [setA'])
noncomputable def E67 : Env := envJ (P := Tryd.prog) jk zer (fun _ => false) (fun _ => false) [con23, con12, con29, con18] [ecn34]
theorem E67_ok : EnvOk Tryd.prog E67 := envJOk zer_ok
set_option maxRecDepth 20000 in
set_option maxHeartbeats 2000000 in
theorem rset_pc {a : Arr} {ix : List Int} {n : Int} (ha : okA a) (hi : ix.length ≤ 1000000) : PC Tryd.prog 28 [arrV a, .sl false 1 (ints .i64 ix), .lit (.int .i64 n)] (aeV (setA' a ix n)) := by
  have ha1 := ha.1
  have ha2 := ha.2
  refine pc_ofR E67_ok mixed (fun _ => [0, 1, 2, 3, 6, 7, 8, 9, 10, 13, 23, 30]) (rs := [.cell 6 35, .tmp 7]) Tryd.func28 rfl (by kernel_rfl) (by kernel_rfl) (Nat.le_of_ble_eq_true rfl) ?_
  simp only [initF_cons, initF_nil, Nat.reduceAdd]
  refine t_name fun KF => ?_
  unfold E67
  have hb := place_bd (a := a) (ix := ix)
  repeat' (first
    | with_reducible refine t_seq fun K => ?_
    | with_reducible refine t_block ?_
    | with_reducible refine t_scope ?_
    | with_reducible refine t_label ?_
    | with_reducible refine t_skip ?_
    | with_reducible refine t_exit ?_
    | with_reducible refine t_ret ?_
    | with_reducible refine t_k ?_
    | (with_reducible refine t_gF ?_)
    | ((first | with_reducible refine t_kE ?_ | with_reducible refine t_kD ?_ | with_reducible refine t_gS ?_ | with_reducible refine t_kL ?_ | (with_reducible refine t_kLE ?_ ?_; rotate_left) | with_reducible refine t_region fun K => ?_ | with_reducible refine t_draw (by kernel_rfl) fun K => ?_); simp only [go_sem, Int.cast_ofNat_Int, Nat.reduceEqDiff, reduceIte, Nat.reduceAdd, Nat.reduceMul, Nat.reduceLeDiff, Nat.reduceSub, Nat.reduceLT, Nat.zero_lt_succ, Int.reduceToNat, Int.reduceAdd, Int.reduceSub, Int.reduceMul, Int.reduceNeg, Int.reduceLT, Int.reduceLE, Int.reduceEq, Int.reduceBEq, Int.reduceBNe, Nat.reduceBEq, List.reduceReplicate, con23_f, con12_f, con29_f, con18_f, ecn34_f, con23_c, con12_c, con29_c, con18_c, ecn34_c, arrOf_agg, arrV_def, slK_sl, szV_def, aeV_def, arr_eta])
    | (with_reducible exact kp_nil)
    | (with_reducible exact Kp.refl _)
    | (with_reducible exact kp_to)
    | (with_reducible refine kp_cons ?_)
    | (with_reducible refine kp_arr ?_)
    | (with_reducible refine kp_app ?_)
    | ((with_reducible refine kp_skip ?_ ?_); rfl)
    | ((with_reducible refine t_cond fun A B => ?_); simp only [go_sem, Int.cast_ofNat_Int, Nat.reduceEqDiff, reduceIte, Nat.reduceAdd, Nat.reduceMul, Nat.reduceLeDiff, Nat.reduceSub, Nat.reduceLT, Nat.zero_lt_succ, Int.reduceToNat, Int.reduceAdd, Int.reduceSub, Int.reduceMul, Int.reduceNeg, Int.reduceLT, Int.reduceLE, Int.reduceEq, Int.reduceBEq, Int.reduceBNe, Nat.reduceBEq, List.reduceReplicate, con23_f, con12_f, con29_f, con18_f, ecn34_f, con23_c, con12_c, con29_c, con18_c, ecn34_c, arrOf_agg, arrV_def, slK_sl, szV_def, aeV_def, arr_eta]; first | (with_reducible refine A.h ?_) | (with_reducible refine B.h ?_) | (refine And.intro (fun hc => A.h ?_) (fun hc => B.h ?_)))
    | simp only [thenQ_n, thenQ_r, thenQ_e, blockQ_n, blockQ_r, blockQ_e, scopeQ_n, scopeQ_r, scopeQ_e, Nat.reduceEqDiff, reduceIte]
    | (with_reducible refine And.intro ?_ ?_)
    | with_reducible intro vr)
  all_goals try (simp only [placeS] at hb; simp_all; done)
  all_goals try (simp only [placeS] at hb; have hb := hb (by simp_all); simp_all; omega)
  all_goals try (first | (with_reducible assumption) | (intros; (try simp only [Bool.and_eq_true, Bool.or_eq_true, Bool.not_eq_true', decide_eq_true_eq, decide_eq_false_iff_not, beq_iff_eq, bne_iff_ne, ne_eq, inI64, List.length_append] at *) <;> omega))
  all_goals ((first | refine end_retE ?_ | refine end_normE ?_); simp only [fin, go_sem, Int.cast_ofNat_Int, Nat.reduceEqDiff, reduceIte, Nat.reduceAdd, Nat.reduceMul, Nat.reduceLeDiff, Nat.reduceSub, Nat.reduceLT, Nat.zero_lt_succ, Int.reduceToNat, Int.reduceAdd, Int.reduceSub, Int.reduceMul, Int.reduceNeg, Int.reduceLT, Int.reduceLE, Int.reduceEq, Int.reduceBEq, Int.reduceBNe, Nat.reduceBEq, List.reduceReplicate])
  · exact nil_of (by simp_all [setA', placeS])
  · exact nil_of (by simp_all [setA', placeS])
  · exact nil_of (by simp_all [setA', placeS])
  · refine arr_of ?_
    have h1 : ofE a = 0 := by simp_all
    have h2 : vld a.e n = true := by simp_all
    rw [ofS_ok (ofE_set (i := (offS a.d ix).1.toNat) h1 h2)]
    simp_all [setA', placeS]
noncomputable def con27 : PCon Tryd.prog where
  f := 27
  c := fun
    | [xa, xix, .lit (.int .i64 n)] => match arrOf xa, slK .i64 xix with | some a, some ix => some (okA a ∧ ix.length ≤ 1000000, aeV (setA' a ix n)) | _, _ => none
    | _ => none
  ok := by
    intro args p r hc hp
    split at hc
    · split at hc
      · rename_i ha hix
        cases hc
        exact PC.weak ((fun hp : _ ∧ _ => set_pc hp.1 hp.2) hp) ⟨arrOf_le ha, slK_le hix, LeA.refl _, trivial⟩
      · cases hc
    · cases hc
  fk := fk27
theorem con27_f : con27.f = 27 := rfl
theorem con27_c {xa : AV} {xix : AV} {n : Int} : con27.c [xa, xix, .lit (.int .i64 n)] = match arrOf xa, slK .i64 xix with | some a, some ix => some (okA a ∧ ix.length ≤ 1000000, aeV (setA' a ix n)) | _, _ => none := rfl
noncomputable def con28 : PCon Tryd.prog where
  f := 28
  c := fun
    | [xa, xix, .lit (.int .i64 n)] => match arrOf xa, slK .i64 xix with | some a, some ix => some (okA a ∧ ix.length ≤ 1000000, aeV (setA' a ix n)) | _, _ => none
    | _ => none
  ok := by
    intro args p r hc hp
    split at hc
    · split at hc
      · rename_i ha hix
        cases hc
        exact PC.weak ((fun hp : _ ∧ _ => rset_pc hp.1 hp.2) hp) ⟨arrOf_le ha, slK_le hix, LeA.refl _, trivial⟩
      · cases hc
    · cases hc
  fk := fk28
theorem con28_f : con28.f = 28 := rfl
theorem con28_c {xa : AV} {xix : AV} {n : Int} : con28.c [xa, xix, .lit (.int .i64 n)] = match arrOf xa, slK .i64 xix with | some a, some ix => some (okA a ∧ ix.length ≤ 1000000, aeV (setA' a ix n)) | _, _ => none := rfl
noncomputable def con25 : PCon Tryd.prog where
  f := 25
  c := fun
    | [xa, xix] => match arrOf xa, slK .i64 xix with | some a, some ix => some (okA a ∧ ix.length ≤ 1000000, szV (atA a ix)) | _, _ => none
    | _ => none
  ok := by
    intro args p r hc hp
    split at hc
    · split at hc
      · rename_i ha hix
        cases hc
        exact PC.weak ((fun hp : _ ∧ _ => at_pc hp.1 hp.2) hp) ⟨arrOf_le ha, slK_le hix, trivial⟩
      · cases hc
    · cases hc
  fk := fk25
theorem con25_f : con25.f = 25 := rfl
theorem con25_c {xa : AV} {xix : AV} : con25.c [xa, xix] = match arrOf xa, slK .i64 xix with | some a, some ix => some (okA a ∧ ix.length ≤ 1000000, szV (atA a ix)) | _, _ => none := rfl
noncomputable def con26 : PCon Tryd.prog where
  f := 26
  c := fun
    | [xa, xix] => match arrOf xa, slK .i64 xix with | some a, some ix => some (okA a ∧ ix.length ≤ 1000000, szV (atA a ix)) | _, _ => none
    | _ => none
  ok := by
    intro args p r hc hp
    split at hc
    · split at hc
      · rename_i ha hix
        cases hc
        exact PC.weak ((fun hp : _ ∧ _ => rat_pc hp.1 hp.2) hp) ⟨arrOf_le ha, slK_le hix, trivial⟩
      · cases hc
    · cases hc
  fk := fk26
theorem con26_f : con26.f = 26 := rfl
theorem con26_c {xa : AV} {xix : AV} : con26.c [xa, xix] = match arrOf xa, slK .i64 xix with | some a, some ix => some (okA a ∧ ix.length ≤ 1000000, szV (atA a ix)) | _, _ => none := rfl
end Go.Proofs.YtjlcbojpiieafaaDoor
