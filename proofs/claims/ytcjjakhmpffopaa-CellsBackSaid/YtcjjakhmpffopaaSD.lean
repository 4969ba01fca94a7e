/- Cells and back: plain facts. -/
import Derived.Test.YtcjjakhmpffopaaSC
import Derived.Test.YtcjjakhmpffopaaSB

set_option linter.all false

namespace Go.Proofs.Ytcjjakhmpffopaa
open Go Go.Fw
def kp8 (i : Nat) : List Nat := if i < 13 then if i < 6 then if i < 3 then if i < 1 then [1, 2] else if i < 2 then [1, 2, 23] else [4] else if i < 4 then [1, 2, 31] else if i < 5 then [4] else [2, 5] else if i < 9 then if i < 7 then [2, 5, 6, 7, 8] else if i < 8 then [2, 5, 6, 7, 8, 9, 10] else [2, 5, 6, 7, 8, 56] else if i < 11 then if i < 10 then [4] else [2, 5, 6, 7, 8, 11, 12] else if i < 12 then [2, 5, 6, 8, 11, 12, 13, 14] else [2, 5, 6, 11, 13, 14, 76] else if i < 20 then if i < 16 then if i < 14 then [4] else if i < 15 then [2, 5, 6, 11, 13, 78] else [4] else if i < 18 then if i < 17 then [2, 5, 6, 11, 13, 15] else [2, 5, 6, 13, 15, 82, 83, 84] else if i < 19 then [2, 5, 6, 13, 15, 82, 83, 84, 85] else [2, 5, 6, 13, 15, 17, 82, 83, 84] else if i < 23 then if i < 21 then [2, 5, 6, 13, 15, 18, 19, 82, 83, 84] else if i < 22 then [2, 5, 6, 13, 15, 18, 82, 83, 84, 96] else [4] else if i < 25 then if i < 24 then [2, 5, 6, 13, 15, 82, 83, 84] else [2, 5, 6, 13, 15, 82, 83, 84] else if i < 26 then [2, 20, 21] else [4]

def digF : List Int → Int → List Int
  | [], _ => []
  | _ :: t, o => o / prI t :: digF t (o % prI t)
theorem prI_rev : ∀ l : List Int, prI l.reverse = prI l
  | [] => rfl
  | d :: t => by rw [List.reverse_cons, prI_app, prI_rev t, prI, prI, prI, Int.mul_one, Int.mul_comm]
theorem digR_app : ∀ (l : List Int) (d o : Int), (∀ x ∈ l, 1 ≤ x) → 0 ≤ o → digR (l ++ [d]) o = digR l o ++ [(o / prI l).tmod d]
  | [], d, o, _, h => by simp [digR, prI]
  | x :: l, d, o, hl, h => by
    have hx := hl x (by simp)
    have h1 : o.tdiv x = o / x := Int.tdiv_eq_ediv_of_nonneg h
    have h2 : 0 ≤ o / x := Int.ediv_nonneg h (by omega)
    rw [List.cons_append, digR, digR, List.cons_append, h1, digR_app l d _ (fun y hy => hl y (by simp [hy])) h2, prI, Int.ediv_ediv_of_nonneg (by omega)]
theorem digR_mod : ∀ (l : List Int) (o : Int), (∀ x ∈ l, 1 ≤ x) → 0 ≤ o → digR l (o % prI l) = digR l o
  | [], _, _, _ => rfl
  | x :: l, o, hl, h => by
    have hx := hl x (by simp)
    have ht : ∀ y ∈ l, 1 ≤ y := fun y hy => hl y (by simp [hy])
    have hp := prI_pos ht
    have h0 : 0 ≤ o % (x * prI l) := Int.emod_nonneg _ (by have := Int.mul_pos (show 0 < x by omega) (show 0 < prI l by omega); omega)
    rw [prI, digR, digR, Int.tmod_eq_emod_of_nonneg h0, Int.tmod_eq_emod_of_nonneg h, Int.tdiv_eq_ediv_of_nonneg h0, Int.tdiv_eq_ediv_of_nonneg h, Int.emod_emod_of_dvd o ⟨prI l, rfl⟩]
    have e : o % (x * prI l) / x = (o / x) % prI l := by
      have h1 := Int.emod_add_mul_ediv o (x * prI l)
      have h2 := Int.emod_add_mul_ediv (o / x) (prI l)
      rw [Int.ediv_ediv_of_nonneg (by omega)] at h2
      have h3 : o = o % (x * prI l) + x * (prI l * (o / (x * prI l))) := by rw [← Int.mul_assoc]; omega
      have h4 : o / x = o % (x * prI l) / x + prI l * (o / (x * prI l)) := by
        conv => lhs; rw [h3]
        rw [Int.add_mul_ediv_left _ _ (by omega)]
      omega
    rw [e, digR_mod l _ ht (Int.ediv_nonneg h (by omega))]
theorem dig_eq : ∀ (d : List Int) (o : Int), (∀ x ∈ d, 1 ≤ x) → 0 ≤ o → o < prI d → (digR d.reverse o).reverse = digF d o
  | [], _, _, _, _ => rfl
  | d :: t, o, hl, h, hb => by
    have hd := hl d (by simp)
    have ht : ∀ y ∈ t, 1 ≤ y := fun y hy => hl y (by simp [hy])
    have hr : ∀ y ∈ t.reverse, 1 ≤ y := fun y hy => ht y (List.mem_reverse.1 hy)
    have hp := prI_pos ht
    have h1 : 0 ≤ o / prI t := Int.ediv_nonneg h (by omega)
    have h2 : o / prI t < d := Int.ediv_lt_of_lt_mul (by omega) hb
    rw [List.reverse_cons, digR_app _ _ _ hr h, List.reverse_append, prI_rev]
    have e : digR t.reverse o = digR t.reverse (o % prI t) := by
      have := digR_mod t.reverse o hr h
      rw [prI_rev] at this; exact this.symm
    rw [e, digF, List.reverse_cons, List.reverse_nil, List.nil_append, List.singleton_append, Int.tmod_eq_emod_of_nonneg h1, Int.emod_eq_of_lt h1 h2,
      dig_eq t _ ht (Int.emod_nonneg _ (by omega)) (Int.emod_lt_of_pos _ (by omega))]
theorem digF_len : ∀ (d : List Int) (o : Int), (digF d o).length = d.length
  | [], _ => rfl
  | _ :: t, o => by simp [digF, digF_len t]
theorem atS_dig : ∀ (d : List Int) (o k : Int), (∀ x ∈ d, 1 ≤ x) → 0 ≤ o → o < prI d → atS d (digF d o) k = some (k * prI d + o)
  | [], o, k, _, h, hb => by simp only [prI] at hb; simp only [digF, atS, prI]; congr 1; omega
  | d :: t, o, k, hl, h, hb => by
    have hd := hl d (by simp)
    have ht : ∀ y ∈ t, 1 ≤ y := fun y hy => hl y (by simp [hy])
    have hp := prI_pos ht
    have h1 : 0 ≤ o / prI t := Int.ediv_nonneg h (by omega)
    have h2 : o / prI t < d := Int.ediv_lt_of_lt_mul (by omega) hb
    rw [digF, atS, if_neg (by omega), atS_dig t _ _ ht (Int.emod_nonneg _ (by omega)) (Int.emod_lt_of_pos _ (by omega))]
    congr 1
    have e := Int.emod_add_mul_ediv o (prI t)
    rw [Int.add_mul, prI, ← Int.mul_assoc, Int.mul_comm (o / prI t)]
    omega
theorem idx_ok {d : List Int} {n p : Int} (hS : sizeS d = (n, 0)) (h : 0 ≤ p) (hb : p < n) : idxS d p = (digF d p, 0) ∧ (∀ x ∈ d, 1 ≤ x) ∧ n = prI d := by
  have hn := (sizeS_ok hS).2.2.1
  have hp := dims_pos hS h hb
  refine ⟨?_, hp, hn⟩
  unfold idxS
  rw [hS]
  simp only
  rw [if_neg (by simp), if_neg (by omega), dig_eq d p hp h (by omega)]
/-- The cell number k of an array. -/
def chunk (a : Arr) (c : List Int) (k : Nat) : Arr := ⟨a.e, c, (a.x.drop (k * (prI c).toNat)).take (prI c).toNat⟩
theorem nat_mul {k : Nat} {m : Int} (h : 0 ≤ m) : ((k : Int) * m).toNat = k * m.toNat := by
  obtain ⟨p, rfl⟩ : ∃ p : Nat, m = p := ⟨m.toNat, by omega⟩
  rw [← Int.natCast_mul]; rfl
/-- The frame of an array, where it has a place. -/
theorem chunk_ok {a : Arr} {f c : List Int} {n k : Nat} (h0 : ofE a = 0) (hd : a.d = f ++ c) (hf : sizeS f = ((n : Int), 0)) (hk : k < n) : ofE (chunk a c k) = 0 ∧ 0 ≤ prI c := by
  obtain ⟨_, hp, hn⟩ := idx_ok hf (p := (k : Int)) (by omega) (by omega)
  obtain ⟨_, q2, _, _, _, q6⟩ := cell_ok (k := k) h0 hd hp (by omega) (by omega)
  rw [nat_mul q2] at q6
  exact ⟨q6, q2⟩
theorem chunk_cell {a : Arr} {r : Int} {f c : List Int} {n k : Nat} (hS : splitS a r = (f, c, 0)) (hf : sizeS f = ((n : Int), 0)) (hk : k < n) : cellS a r (idxS f k).1 = (chunk a c k, 0) := by
  obtain ⟨h0, hd, _, _⟩ := splitS_inv hS
  obtain ⟨e, hp, hn⟩ := idx_ok hf (p := (k : Int)) (by omega) (by omega)
  have hc := (chunk_ok h0 hd hf hk).2
  unfold cellS
  rw [hS, e]
  simp only
  rw [if_neg (by simp), if_neg (by simp [digF_len]), atS_dig f _ _ hp (by omega) (by omega)]
  simp only [Int.zero_mul, Int.zero_add]
  rw [nat_mul hc]
  rfl
theorem jnG_chunks {a : Arr} {c : List Int} {zs : List Int} : ∀ (ks : List Nat) (acc : List Int), jnG ⟨a.e, c, zs⟩ (ks.map (chunk a c)) acc = (acc ++ ks.flatMap fun k => (chunk a c k).x, 0)
  | [], acc => by simp [jnG]
  | k :: t, acc => by
    rw [List.map_cons, jnG, if_neg, if_neg, jnG_chunks t, List.flatMap_cons, List.append_assoc]
    · simp [chunk]
    · show ¬ (!(eqS a.e a.e)) = true
      rw [eqS_refl]; decide
theorem chunks_take {a : Arr} {c : List Int} : ∀ n : Nat, ((List.range n).flatMap fun k => (chunk a c k).x) = a.x.take (n * (prI c).toNat)
  | 0 => by simp
  | n + 1 => by
    rw [List.range_succ, List.flatMap_append, chunks_take n, List.flatMap_cons, List.flatMap_nil, List.append_nil, Nat.succ_mul, List.take_add]
    rfl
theorem joinS_back {a : Arr} {f c : List Int} {n : Nat} {zs : List Int} (h0 : ofE a = 0) (hd : a.d = f ++ c) (hf : sizeS f = ((n : Int), 0)) (hz : ofE ⟨a.e, c, zs⟩ = 0) :
    joinS f ((List.range n).map (chunk a c)) ⟨a.e, c, zs⟩ = (a, 0) := by
  have hany : ((List.range n).map (chunk a c)).any invA = false := by
    rw [List.any_eq_false]
    intro x hx
    obtain ⟨k, hk, rfl⟩ := List.mem_map.1 hx
    have := (chunk_ok h0 hd hf (List.mem_range.1 hk)).1
    simp [invA, this]
  obtain ⟨t1, t2, t3⟩ := ofE_inv h0
  rw [hd] at t2
  have e1 := (sizeS_ok t2).2.2.1
  have e2 := (sizeS_ok hf).2.2.1
  rw [prI_app, ← e2] at e1
  have hc : 0 ≤ prI c := prI_nonneg fun x hx => (sizeS_ok t2).2.1 x (by simp [hx])
  have hx : a.x.length = n * (prI c).toNat := by
    rw [← nat_mul hc, ← e1, Int.toNat_natCast]
  unfold joinS
  rw [if_neg (by rw [hany, hz]; decide), hf]
  simp only
  rw [if_neg (by simp), if_neg (by simp), jnG_chunks, List.nil_append, chunks_take]
  simp only
  rw [if_neg (by simp), t2]
  simp only
  rw [if_neg (by simp), ← hx, List.take_length, ← hd]
theorem zeros_ok {e : ByteArray} {c : List Int} (ht : tyOk e = true) (hs : (sizeS c).2 = 0) : zerosS e c = (⟨e, c, List.replicate (sizeS c).1.toNat 0⟩, 0) ∧ ofE ⟨e, c, List.replicate (sizeS c).1.toNat 0⟩ = 0 := by
  have h0 : ofE ⟨e, c, List.replicate (sizeS c).1.toNat 0⟩ = 0 := by
    have hb := sizeS_bd c
    refine ofE_zero ht (Prod.ext (by simp; omega) hs) ?_
    show (List.replicate _ (0 : Int)).any _ = false
    rw [List.any_eq_false]
    intro x hx
    obtain rfl := (List.mem_replicate.1 hx).2
    have : vld e 0 = true := by
      unfold vld
      split
      · decide
      · rename_i h1
        have ht' := ht
        unfold tyOk at ht'
        have h2 : eqS e sBool = true := by
          have : eqS e sInt = false := by simpa using h1
          unfold sInt at this
          rw [this] at ht'
          simpa [sBool] using ht'
        rw [if_pos h2]; decide
    rw [this]; decide
  refine ⟨?_, h0⟩
  unfold zerosS
  rw [if_neg (by rw [ht]; decide), if_neg (by simpa using hs)]
  unfold ofS
  rw [if_pos h0]
/-- Where the cells have no size there is no place. -/
theorem no_cells {a : Arr} {f c : List Int} {n : Nat} (h0 : ofE a = 0) (hd : a.d = f ++ c) (hf : sizeS f = ((n : Int), 0)) (hs : (sizeS c).2 ≠ 0) : n = 0 := by
  rcases Nat.eq_zero_or_pos n with h | h
  · exact h
  · obtain ⟨_, hp, _⟩ := idx_ok hf (p := 0) (by omega) (by omega)
    have := (ofE_inv h0).2.1
    rw [hd] at this
    rw [sizeS_part this hp] at hs
    exact absurd rfl hs
end Go.Proofs.Ytcjjakhmpffopaa

/- CellsBack. -/
namespace Go.Proofs.Ytcjjakhmpffopaa
open Go Go.Fw
set_option maxRecDepth 20000
attribute [go_sem] con20_f con20_c con22_f con22_c con37_f con37_c spV_def
noncomputable def E83 : Env := envJ (P := Try.prog) jk zer (fun _ => false) (fun _ => false) [con15, con31, con36, con20, con30, con34, con37, con22, con32, con24] []
theorem E83_ok : EnvOk Try.prog E83 := envJOk zer_ok
def cks (a : Arr) (c : List Int) (n : Nat) : List Arr := (List.range n).map (chunk a c)
theorem cks_len (a : Arr) (c : List Int) (n : Nat) : (cks a c n).length = n := by simp [cks]
theorem cks_app {a : Arr} {c : List Int} {j : Nat} : arrs (cks a c j) ++ [arrV (chunk a c j)] = arrs (cks a c (j + 1)) := by simp [cks, arrs, List.range_succ]
theorem cks_ok {a : Arr} {c : List Int} {n : Nat} (hc : c.length ≤ 1000000) (ha : a.x.length ≤ 1000000) : ∀ x ∈ cks a c n, okA x := by
  intro x hx
  obtain ⟨k, _, rfl⟩ := List.mem_map.1 hx
  refine ⟨hc, ?_⟩
  show ((a.x.drop _).take _).length ≤ _
  simp only [List.length_take, List.length_drop]; omega
set_option maxHeartbeats 4000000 in
theorem back_law_pc {a : Arr} {k : Int} (hk : 0 ≤ k ∧ k ≤ 255) : PC Try.prog 8 [arrV a, .lit (.int .u8 k)] (.lit (.bool true)) := by
  simp only [arrV]
  cases hg : (!fewA a 100 || !(ofE a == 0)) with
  | true =>
    have hg' : (!fewA ⟨a.e, a.d, a.x⟩ 100 || !(ofE ⟨a.e, a.d, a.x⟩ == 0)) = true := hg
    refine pc_ofR E83_ok mixed (kp8) (rs := [.tmp 4]) Try.func8 rfl (by kernel_rfl) (by kernel_rfl) (Nat.le_of_ble_eq_true rfl) ?_
    simp only [initF_cons, initF_nil, Nat.reduceAdd]
    refine t_name fun KF => ?_
    unfold E83
    repeat' (first
     | (with_reducible first | refine t_seq fun K => ?_ | refine t_block ?_ | refine t_scope ?_ | refine t_label ?_ | refine t_skip ?_ | refine t_exit ?_ | refine t_ret ?_ | refine t_k ?_ | refine t_gF ?_ | exact kp_nil | exact Kp.refl _ | exact kp_to | refine kp_cons ?_ | refine kp_arr ?_ | refine kp_app ?_ | refine t_p ?_ | refine t_br (fun hc => ?_) fun hc => ?_)
     | ((with_reducible first | refine t_kE (t_openE ?_) | refine t_kD (t_openD ?_) | refine t_kE ?_ | refine t_kD ?_ | refine t_gS ?_ | refine t_kL ?_ | refine t_kLF ?_ ?_ | refine t_region fun K => ?_ | refine t_cond fun A B => ?_ | refine t_draw (by kernel_rfl) fun K => ?_); (try (first | refine t_hideE fun KL => ?_ | refine t_hideD fun KL => ?_)); simp only [go_sem, geff, kp8, hg'])
     | ((with_reducible refine kp_skip ?_ ?_); rfl) | simp only [thenQ, blockQ, scopeQ, Nat.reduceEqDiff, reduceIte] | (with_reducible first | refine And.intro ?_ ?_ | intro vr))
    all_goals try (first | (with_reducible assumption) | (intros; (try simp only [Bool.and_eq_true, Bool.or_eq_true, Bool.or_eq_false_iff, Bool.not_eq_true', Bool.not_eq_false', decide_eq_true_eq, decide_eq_false_iff_not, beq_iff_eq, beq_eq_false_iff_ne, bne_iff_ne, bne_eq_false_iff_eq, ne_eq, inI64, List.length_append] at *) <;> omega) | (intros; (with_reducible first | refine impB_ofR ?_ | refine and_ofB ?_ ?_) <;> with_reducible first | assumption | (refine impB_ofR ?_; assumption)) | ((try simp only [Bool.and_eq_true] at vr); simp only [impB, vr, Bool.or_true, Bool.true_or, Bool.and_self, Bool.not_true, Bool.not_false, Bool.and_true]; done))
    all_goals try (have q := vr; rw [Bool.not_not] at q; first | exact (few_ok q (by omega)).1 | exact (few_ok q (by omega)).2)
    all_goals ((first | refine end_retE ?_ | refine end_normE ?_); simp only [fin, go_sem])
    exact LeA.refl _
  | false =>
    have hg' : (!fewA ⟨a.e, a.d, a.x⟩ 100 || !(ofE ⟨a.e, a.d, a.x⟩ == 0)) = false := hg
    simp only [Bool.or_eq_false_iff, Bool.not_eq_false', beq_iff_eq] at hg
    obtain ⟨g1, g2⟩ := hg
    obtain ⟨s1, s2⟩ := few_ok g1 (by omega)
    have hr : 0 ≤ k.tmod ((a.d.length : Int) + 1) ∧ k.tmod ((a.d.length : Int) + 1) ≤ a.d.length := by
      have := tdm hk.1 (show 1 ≤ (a.d.length : Int) + 1 by omega)
      omega
    generalize hR : k.tmod ((a.d.length : Int) + 1) = r at hr
    obtain ⟨f, c, hS⟩ : ∃ f c, splitS a r = (f, c, 0) := by
      unfold splitS
      rw [if_neg (by simpa using g2), if_neg (by omega)]
      exact ⟨_, _, rfl⟩
    obtain ⟨_, hd, _, _⟩ := splitS_inv hS
    have hS' : splitS ⟨a.e, a.d, a.x⟩ r = (f, c, 0) := hS
    have hfl : f.length ≤ 1000000 := by have := congrArg List.length hd; rw [List.length_append] at this; omega
    have hcl : c.length ≤ 1000000 := by have := congrArg List.length hd; rw [List.length_append] at this; omega
    generalize hF : sizeS f = q
    obtain ⟨n, er⟩ := q
    have hw : IntKind.i64.wrap k = k := wrap_i64 (by unfold inI64; omega)
    have ho : okA ⟨a.e, a.d, a.x⟩ := ⟨s1, s2⟩
    have hri : inI64 r := by unfold inI64; omega
    cases hq : (er != 0 || decide (n > 100)) with
    | true =>
      refine pc_ofR E83_ok mixed (kp8) (rs := [.tmp 4]) Try.func8 rfl (by kernel_rfl) (by kernel_rfl) (Nat.le_of_ble_eq_true rfl) ?_
      simp only [initF_cons, initF_nil, Nat.reduceAdd]
      refine t_name fun KF => ?_
      unfold E83
      repeat' (first
       | (with_reducible first | refine t_seq fun K => ?_ | refine t_block ?_ | refine t_scope ?_ | refine t_label ?_ | refine t_skip ?_ | refine t_exit ?_ | refine t_ret ?_ | refine t_k ?_ | refine t_gF ?_ | exact kp_nil | exact Kp.refl _ | exact kp_to | refine kp_cons ?_ | refine kp_arr ?_ | refine kp_app ?_ | refine t_p ?_ | refine t_br (fun hc => ?_) fun hc => ?_)
       | ((with_reducible first | refine t_kE (t_openE ?_) | refine t_kD (t_openD ?_) | refine t_kE ?_ | refine t_kD ?_ | refine t_gS ?_ | refine t_kL ?_ | refine t_kLF ?_ ?_ | refine t_region fun K => ?_ | refine t_cond fun A B => ?_ | refine t_draw (by kernel_rfl) fun K => ?_); (try (first | refine t_hideE fun KL => ?_ | refine t_hideD fun KL => ?_)); simp only [go_sem, geff, kp8, hg', hw, hR, hS', hF, hq, beq_self_eq_true])
       | ((with_reducible refine kp_skip ?_ ?_); rfl) | simp only [thenQ, blockQ, scopeQ, Nat.reduceEqDiff, reduceIte] | (with_reducible first | refine And.intro ?_ ?_ | intro vr))
      all_goals try (first | (with_reducible assumption) | (intros; (try simp only [Bool.and_eq_true, Bool.or_eq_true, Bool.or_eq_false_iff, Bool.not_eq_true', Bool.not_eq_false', decide_eq_true_eq, decide_eq_false_iff_not, beq_iff_eq, beq_eq_false_iff_ne, bne_iff_ne, bne_eq_false_iff_eq, ne_eq, inI64, List.length_append] at *) <;> omega) | (intros; (with_reducible first | refine impB_ofR ?_ | refine and_ofB ?_ ?_) <;> with_reducible first | assumption | (refine impB_ofR ?_; assumption)) | ((try simp only [Bool.and_eq_true] at vr); simp only [impB, vr, Bool.or_true, Bool.true_or, Bool.and_self, Bool.not_true, Bool.not_false, Bool.and_true]; done))
      all_goals ((first | refine end_retE ?_ | refine end_normE ?_); simp only [fin, go_sem])
      exact LeA.refl _
    | false =>
      simp only [Bool.or_eq_false_iff, bne_eq_false_iff_eq, decide_eq_false_iff_not] at hq
      obtain ⟨rfl, hn⟩ := hq
      obtain ⟨_, hdk, hpr, _⟩ := sizeS_ok hF
      obtain ⟨n, rfl⟩ : ∃ m : Nat, n = m := ⟨n.toNat, by have := prI_nonneg hdk; omega⟩
      have hX : indicesS f = (inds f n, 0) := by unfold indicesS; rw [hF]; simp
      have hn' : decide ((n : Int) > 100) = false := decide_eq_false hn
      by_cases hcs : (sizeS c).2 = 0
      · obtain ⟨hz, hz0⟩ := zeros_ok (ofE_inv g2).1 hcs
        refine pc_ofR E83_ok mixed (kp8) (rs := [.tmp 4]) Try.func8 rfl (by kernel_rfl) (by kernel_rfl) (Nat.le_of_ble_eq_true rfl) ?_
        simp only [initF_cons, initF_nil, Nat.reduceAdd]
        refine t_name fun KF => ?_
        unfold E83
        repeat' (first
         | (with_reducible first | refine t_seq fun K => ?_ | refine t_block ?_ | refine t_scope ?_ | refine t_label ?_ | refine t_skip ?_ | refine t_exit ?_ | refine t_ret ?_ | refine t_k ?_ | refine t_gF ?_ | exact kp_nil | exact Kp.refl _ | exact kp_to | refine kp_cons ?_ | refine kp_arr ?_ | refine kp_app ?_ | refine t_p ?_ | refine t_br (fun hc => ?_) fun hc => ?_)
         | ((with_reducible first | refine t_kE (t_openE ?_) | refine t_kD (t_openD ?_) | refine t_kE ?_ | refine t_kD ?_ | refine t_gS ?_ | refine t_kL ?_ | refine t_kLF ?_ ?_ | refine t_region fun K => ?_ | refine t_cond fun A B => ?_ | refine t_draw (by kernel_rfl) fun K => ?_); (try (first | refine t_hideE fun KL => ?_ | refine t_hideD fun KL => ?_)); simp only [go_sem, geff, kp8, hg', hw, hR, hS', hF, hn', hX, hz, arrV, bne_self_eq_false, Bool.false_or])
         | ((with_reducible refine kp_skip ?_ ?_); rfl) | simp only [thenQ, blockQ, scopeQ, Nat.reduceEqDiff, reduceIte] | (with_reducible first | refine And.intro ?_ ?_ | intro vr))
        all_goals try (first | (with_reducible assumption) | (intros; (try simp only [Bool.and_eq_true, Bool.or_eq_true, Bool.or_eq_false_iff, Bool.not_eq_true', Bool.not_eq_false', decide_eq_true_eq, decide_eq_false_iff_not, beq_iff_eq, beq_eq_false_iff_ne, bne_iff_ne, bne_eq_false_iff_eq, ne_eq, inI64, List.length_append] at *) <;> omega) | (intros; (with_reducible first | refine impB_ofR ?_ | refine and_ofB ?_ ?_) <;> with_reducible first | assumption | (refine impB_ofR ?_; assumption)) | ((try simp only [Bool.and_eq_true] at vr); simp only [impB, vr, Bool.or_true, Bool.true_or, Bool.and_self, Bool.not_true, Bool.not_false, Bool.and_true]; done))
        refine t_loopF (ι := { p : Nat × Nat // p.1 ≤ n }) (fun i => [(84, .lit (.int .i64 i.1.1)), (15, .arr 2 i.1.2)]) (fun i => [.box 33 [.lit (.string a.e), .sl false 1 (ints .i64 a.d), .sl false 1 (ints .i64 a.x)], .box 33 [.lit (.string a.e), .sl false 1 (ints .i64 c), .sl false 1 (ints .i64 (List.replicate (sizeS c).1.toNat 0))], .arr 33 3 (arrs (cks a c i.1.1)) i.1.2 false]) (fun i => n - i.1.1) ⟨(0, 0), by simp⟩ ?_ ?_
        · refine (le_nil 15 33 3 rfl).trans ?_
          simp only [updL_nil, updL_cons, delF_top, delF_upd, Nat.reduceEqDiff, reduceIte]
          refine Le.frameS (by first | rfl | (simp only [go_sem]; try rfl)) ?_
          repeat' (first | exact leF_top _ | exact (fun _ => LeR.refl _) | (with_reducible refine leF_sl ?_ ?_) | (refine leF_upd ?_ ?_))
          all_goals (first | exact LeR.top _ | exact LeR.refl _ | (refine LeR.of_eq ?_; (try simp only [go_sem]); try rfl) | ((try simp only [go_sem]); try rfl))
        rintro ⟨⟨j, ver⟩, hj⟩ K0
        simp only at hj
        rcases Nat.lt_or_ge j n with hc | hc
        · have k3 : decide ((j : Int) < (n : Int)) = true := decide_eq_true (by omega)
          have hC : cellS ⟨a.e, a.d, a.x⟩ r ((inds f n).getD j []) = (chunk a c j, 0) := by
            have e : (inds f n).getD j [] = (idxS f j).1 := by simp [inds, List.getD, hc]
            rw [e]; exact chunk_cell hS hF hc
          have hjl : ((inds f n).getD j []).length ≤ 1000000 := by
            have := indices_len (fr := f) _ (show (inds f n).getD j [] ∈ (indicesS f).1 by rw [hX]; exact getD_memI (by rw [inds_len]; exact hc))
            omega
          have hap := cks_app (a := a) (c := c) (j := j)
          simp only [arrV] at hap
          have hll := cks_len a c j
          repeat' (first
           | (with_reducible first | refine t_seq fun K => ?_ | refine t_block ?_ | refine t_scope ?_ | refine t_label ?_ | refine t_skip ?_ | refine t_exit ?_ | refine t_ret ?_ | refine t_k ?_ | refine t_gF ?_ | exact kp_nil | exact Kp.refl _ | exact kp_to | refine kp_cons ?_ | refine kp_arr ?_ | refine kp_app ?_ | refine t_p ?_ | refine t_br (fun hc => ?_) fun hc => ?_)
           | ((with_reducible first | refine t_kE (t_openE ?_) | refine t_kD (t_openD ?_) | refine t_kE ?_ | refine t_kD ?_ | refine t_gS ?_ | refine t_kL ?_ | refine t_kLF ?_ ?_ | refine t_region fun K => ?_ | refine t_cond fun A B => ?_ | refine t_draw (by kernel_rfl) fun K => ?_); (try (first | refine t_hideE fun KL => ?_ | refine t_hideD fun KL => ?_)); simp only [go_sem, geff, kp8, k3, hC, hap, Int.toNat_natCast, ilsl_len, inds_len, arrV, arrs_length])
           | ((with_reducible refine kp_skip ?_ ?_); rfl) | simp only [thenQ, blockQ, scopeQ, Nat.reduceEqDiff, reduceIte] | (with_reducible first | refine And.intro ?_ ?_ | intro vr))
          all_goals try (first | (with_reducible assumption) | (intros; (try simp only [Bool.and_eq_true, Bool.or_eq_true, Bool.or_eq_false_iff, Bool.not_eq_true', Bool.not_eq_false', decide_eq_true_eq, decide_eq_false_iff_not, beq_iff_eq, beq_eq_false_iff_ne, bne_iff_ne, bne_eq_false_iff_eq, ne_eq, inI64, List.length_append] at *) <;> omega) | (intros; (with_reducible first | refine impB_ofR ?_ | refine and_ofB ?_ ?_) <;> with_reducible first | assumption | (refine impB_ofR ?_; assumption)) | ((try simp only [Bool.and_eq_true] at vr); simp only [impB, vr, Bool.or_true, Bool.true_or, Bool.and_self, Bool.not_true, Bool.not_false, Bool.and_true]; done))
          refine ⟨⟨(j + 1, ver + 1), by simp only; omega⟩, by first | (simp only; omega) | omega, ?_⟩
          simp only [updL_nil, updL_cons, delF_top, delF_upd, Nat.reduceEqDiff, reduceIte]
          refine le_backD (by first | rfl | (simp only [go_sem]; try rfl)) (by first | exact Nat.zero_le _ | simp) (by first | rfl | simp [lowO, low_lit, low_sl, low_ref, low_arr]) ?_ ?_
          · repeat' (first | exact low_top | (refine low_upd rfl ?_))
          repeat' (first | exact leF_top _ | exact (fun _ => LeR.refl _) | (with_reducible refine leF_sl ?_ ?_) | (refine leF_upd ?_ ?_))
          all_goals (first | exact LeR.top _ | exact LeR.refl _ | (refine LeR.of_eq ?_; (try simp only [go_sem]); try rfl) | ((try simp only [go_sem]); try rfl))
        · have k3 : decide ((j : Int) < (n : Int)) = false := decide_eq_false (by omega)
          have e : n = j := by omega
          subst e
          have hB : joinS f (cks a c n) ⟨a.e, c, List.replicate (sizeS c).1.toNat 0⟩ = (a, 0) := joinS_back g2 hd hF hz0
          have hll := cks_len a c n
          have hck := cks_ok (n := n) hcl s2
          have hzo : okA ⟨a.e, c, List.replicate (sizeS c).1.toNat 0⟩ := by
            have := (sizeS_ok (ofE_inv hz0).2.1).2.2.2
            exact ⟨hcl, by show (List.replicate (sizeS c).1.toNat (0 : Int)).length ≤ _; simp only at this; omega⟩
          have hee : eqA ⟨a.e, a.d, a.x⟩ ⟨a.e, a.d, a.x⟩ = true := eqA_refl a
          repeat' (first
           | (with_reducible first | refine t_seq fun K => ?_ | refine t_block ?_ | refine t_scope ?_ | refine t_label ?_ | refine t_skip ?_ | refine t_exit ?_ | refine t_ret ?_ | refine t_k ?_ | refine t_gF ?_ | exact kp_nil | exact Kp.refl _ | exact kp_to | refine kp_cons ?_ | refine kp_arr ?_ | refine kp_app ?_ | refine t_p ?_ | refine t_br (fun hc => ?_) fun hc => ?_)
           | ((with_reducible first | refine t_kE (t_openE ?_) | refine t_kD (t_openD ?_) | refine t_kE ?_ | refine t_kD ?_ | refine t_gS ?_ | refine t_kL ?_ | refine t_kLF ?_ ?_ | refine t_region fun K => ?_ | refine t_cond fun A B => ?_ | refine t_draw (by kernel_rfl) fun K => ?_); (try (first | refine t_hideE fun KL => ?_ | refine t_hideD fun KL => ?_)); simp only [go_sem, geff, kp8, k3, hB, Int.toNat_natCast, ilsl_len, inds_len, arrV, arrs_length, hee])
           | ((with_reducible refine kp_skip ?_ ?_); rfl) | simp only [thenQ, blockQ, scopeQ, Nat.reduceEqDiff, reduceIte] | (with_reducible first | refine And.intro ?_ ?_ | intro vr))
          all_goals try (first | (with_reducible assumption) | (intros; (try simp only [Bool.and_eq_true, Bool.or_eq_true, Bool.or_eq_false_iff, Bool.not_eq_true', Bool.not_eq_false', decide_eq_true_eq, decide_eq_false_iff_not, beq_iff_eq, beq_eq_false_iff_ne, bne_iff_ne, bne_eq_false_iff_eq, ne_eq, inI64, List.length_append] at *) <;> omega) | (intros; (with_reducible first | refine impB_ofR ?_ | refine and_ofB ?_ ?_) <;> with_reducible first | assumption | (refine impB_ofR ?_; assumption)) | ((try simp only [Bool.and_eq_true] at vr); simp only [impB, vr, Bool.or_true, Bool.true_or, Bool.and_self, Bool.not_true, Bool.not_false, Bool.and_true]; done))
          all_goals try exact hck _ (by assumption)
          all_goals ((first | refine end_retE ?_ | refine end_normE ?_); simp only [fin, go_sem])
          exact LeA.refl _
      · have hn0 := no_cells g2 hd hF hcs
        subst hn0
        have hz : zerosS a.e c = (nilA, (sizeS c).2) := by
          unfold zerosS
          rw [if_neg (by rw [(ofE_inv g2).1]; decide), if_pos hcs]
        generalize hE : (sizeS c).2 = ec at hz hcs
        have hcs' : (ec != 0) = true := bne_iff_ne.2 hcs
        refine pc_ofR E83_ok mixed (kp8) (rs := [.tmp 4]) Try.func8 rfl (by kernel_rfl) (by kernel_rfl) (Nat.le_of_ble_eq_true rfl) ?_
        simp only [initF_cons, initF_nil, Nat.reduceAdd]
        refine t_name fun KF => ?_
        unfold E83
        repeat' (first
         | (with_reducible first | refine t_seq fun K => ?_ | refine t_block ?_ | refine t_scope ?_ | refine t_label ?_ | refine t_skip ?_ | refine t_exit ?_ | refine t_ret ?_ | refine t_k ?_ | refine t_gF ?_ | exact kp_nil | exact Kp.refl _ | exact kp_to | refine kp_cons ?_ | refine kp_arr ?_ | refine kp_app ?_ | refine t_p ?_ | refine t_br (fun hc => ?_) fun hc => ?_)
         | ((with_reducible first | refine t_kE (t_openE ?_) | refine t_kD (t_openD ?_) | refine t_kE ?_ | refine t_kD ?_ | refine t_gS ?_ | refine t_kL ?_ | refine t_kLF ?_ ?_ | refine t_region fun K => ?_ | refine t_cond fun A B => ?_ | refine t_draw (by kernel_rfl) fun K => ?_); (try (first | refine t_hideE fun KL => ?_ | refine t_hideD fun KL => ?_)); simp only [go_sem, geff, kp8, hg', hw, hR, hS', hF, hn', hX, hz, hcs', arrV, nilA, bne_self_eq_false, Bool.false_or, ints_nil, ilsl_len, inds_len])
         | ((with_reducible refine kp_skip ?_ ?_); rfl) | simp only [thenQ, blockQ, scopeQ, Nat.reduceEqDiff, reduceIte] | (with_reducible first | refine And.intro ?_ ?_ | intro vr))
        all_goals try (first | (with_reducible assumption) | (intros; (try simp only [Bool.and_eq_true, Bool.or_eq_true, Bool.or_eq_false_iff, Bool.not_eq_true', Bool.not_eq_false', decide_eq_true_eq, decide_eq_false_iff_not, beq_iff_eq, beq_eq_false_iff_ne, bne_iff_ne, bne_eq_false_iff_eq, ne_eq, inI64, List.length_append] at *) <;> omega) | (intros; (with_reducible first | refine impB_ofR ?_ | refine and_ofB ?_ ?_) <;> with_reducible first | assumption | (refine impB_ofR ?_; assumption)) | ((try simp only [Bool.and_eq_true] at vr); simp only [impB, vr, Bool.or_true, Bool.true_or, Bool.and_self, Bool.not_true, Bool.not_false, Bool.and_true]; done))
        all_goals ((first | refine end_retE ?_ | refine end_normE ?_); simp only [fin, go_sem])
        exact LeA.refl _
theorem back_law : ∀ xs, ShL Try.prog Try.f8.params.toList xs → PC Try.prog 8 xs (.lit (.bool true))
  | [x, y], h => by
    obtain ⟨a, rfl, _⟩ := shv_arr h.1
    obtain ⟨k, rfl, hk⟩ := shv_int u5 h.2.1
    have h1 : IntKind.u8.min = 0 := by decide
    have h2 : IntKind.u8.max = 255 := by decide
    exact back_law_pc (by simp [Lit.wf] at hk; omega)
  | [], h => h.elim
  | [_], h => h.2.elim
  | _ :: _ :: _ :: _, h => h.2.2.elim
end Go.Proofs.Ytcjjakhmpffopaa
