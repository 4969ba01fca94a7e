/- Products of dimensions, places, cells: plain facts. -/
import Derived.Test.YtjlcbojpiieafaaCD
import Derived.Test.YtjlcbojpiieafaaCF

set_option linter.all false

namespace Go.Fw
theorem kp_skip {D : Nat → Bool} {x y : AObj} {l l' : List AObj} (h0 : D 0 = false) (h : Kp (fun i => D (i + 1)) l l') : Kp D (x :: l) (y :: l') := fun o t cs d e => by
  cases o with
  | zero => rw [h0] at d; cases d
  | succ o => exact h o t cs d e
end Go.Fw
namespace Go.Proofs.Ytjlcbojpiieafaa
open Go Go.Fw

def prI : List Int → Int
  | [] => 1
  | d :: t => d * prI t
def dimOk (l : List Int) : Prop := ∀ x ∈ l, 0 ≤ x ∧ x ≤ 4096
theorem prI_app : ∀ l m : List Int, prI (l ++ m) = prI l * prI m
  | [], m => by simp [prI]
  | d :: t, m => by simp [prI, prI_app t m, Int.mul_assoc]
theorem prI_nonneg : ∀ {l : List Int}, dimOk l → 0 ≤ prI l
  | [], _ => by decide
  | d :: t, h => Int.mul_nonneg (h d (by simp)).1 (prI_nonneg fun x hx => h x (by simp [hx]))
theorem prI_pos : ∀ {l : List Int}, (∀ x ∈ l, 1 ≤ x) → 1 ≤ prI l
  | [], _ => by decide
  | d :: t, h => by
    have h1 := h d (by simp)
    have h2 := prI_pos (l := t) fun x hx => h x (by simp [hx])
    have := Int.mul_le_mul h1 h2 (by omega) (by omega)
    simpa [prI] using this
theorem prI_zero : ∀ {l : List Int}, (l.any fun d => 0 == d) = true → prI l = 0
  | [], h => by simp at h
  | d :: t, h => by
    rw [List.any_cons, Bool.or_eq_true] at h
    rcases h with h | h
    · rw [beq_iff_eq] at h; rw [prI, ← h, Int.zero_mul]
    · rw [prI, prI_zero h, Int.mul_zero]
theorem prI_pow : ∀ {l : List Int}, dimOk l → prI l ≤ 4096 ^ l.length
  | [], _ => by decide
  | d :: t, h => by
    have h1 := h d (by simp)
    have ht : dimOk t := fun x hx => h x (by simp [hx])
    have h2 := prI_pow ht
    have h0 := prI_nonneg ht
    have := Int.mul_le_mul h1.2 h2 h0 (by omega)
    rw [prI, List.length_cons, Int.pow_succ, Int.mul_comm _ 4096]
    exact this
theorem prodS_eq : ∀ {l : List Int} {m n : Int}, prodS l m = (n, 0) → n = m * prI l
  | [], m, n, h => by simp only [prodS, Prod.mk.injEq] at h; rw [prI]; omega
  | d :: t, m, n, h => by
    unfold prodS at h
    split at h
    · cases h
    · rw [prI, ← Int.mul_assoc]; exact prodS_eq h
theorem prodS_ok : ∀ {l : List Int} {m : Int}, (∀ x ∈ l, 1 ≤ x) → 1 ≤ m → m * prI l ≤ 4096 → prodS l m = (m * prI l, 0)
  | [], m, _, _, _ => by simp [prodS, prI]
  | d :: t, m, h, hm, hb => by
    have h1 := h d (by simp)
    have ht : ∀ x ∈ t, 1 ≤ x := fun x hx => h x (by simp [hx])
    have hp := prI_pos ht
    rw [prI, ← Int.mul_assoc] at hb
    have hmd := Int.mul_le_mul hm h1 (by omega) (by omega)
    have : m * d * 1 ≤ m * d * prI t := Int.mul_le_mul_of_nonneg_left hp (by omega)
    unfold prodS
    rw [if_neg (by omega), prI, ← Int.mul_assoc]
    exact prodS_ok ht (by omega) hb
theorem not_any_zero {l : List Int} (hd : dimOk l) (h : ¬ (l.any fun d => 0 == d) = true) : ∀ x ∈ l, 1 ≤ x := by
  intro x hx
  have : ¬ x = 0 := fun e => h (List.any_eq_true.2 ⟨x, hx, by rw [e]; rfl⟩)
  have := hd x hx
  omega
theorem sizeS_ok {d : List Int} {n : Int} (h : sizeS d = (n, 0)) : d.length ≤ 6 ∧ dimOk d ∧ n = prI d ∧ n ≤ 4096 := by
  have hb := sizeS_bd d
  rw [h] at hb
  unfold sizeS at h
  split at h
  · cases h
  rename_i h6
  split at h
  · cases h
  rename_i hbad
  have hd : dimOk d := bad_no hbad
  split at h
  · rename_i h0
    cases h
    exact ⟨by omega, hd, (prI_zero h0).symm, by decide⟩
  · exact ⟨by omega, hd, by rw [prodS_eq h, Int.one_mul], hb.2⟩
/-- A part of dimensions whose size is right has a size. -/
theorem sizeS_part {f c : List Int} {n : Int} (h : sizeS (f ++ c) = (n, 0)) (hf : ∀ x ∈ f, 1 ≤ x) : sizeS c = (prI c, 0) := by
  obtain ⟨h1, h2, h3, h4⟩ := sizeS_ok h
  have hc : dimOk c := fun x hx => h2 x (by simp [hx])
  unfold sizeS
  rw [if_neg (by simp only [List.length_append] at h1; omega)]
  rw [if_neg (by
    intro hb
    obtain ⟨x, hx, hb⟩ := List.any_eq_true.1 hb
    have := hc x hx
    unfold badD at hb
    rw [Bool.or_eq_true, decide_eq_true_eq, decide_eq_true_eq] at hb
    omega)]
  split
  · rename_i h0; rw [prI_zero h0]
  · rename_i h0
    have hp := prI_pos (not_any_zero hc h0)
    have hq := prI_pos hf
    have : 1 * prI c ≤ prI f * prI c := Int.mul_le_mul_of_nonneg_right hq (by omega)
    rw [← prI_app, ← h3] at this
    rw [prodS_ok (not_any_zero hc h0) (by decide) (by omega), Int.one_mul]
theorem pow_bd : ∀ n : Nat, n ≤ 5 → (4096 : Int) ^ n ≤ 1152921504606846976 := by decide
theorem prI_bd {l : List Int} (hd : dimOk l) (h6 : l.length ≤ 6) (h : l.length = 6 → prI l ≤ 4096) : 0 ≤ prI l ∧ prI l ≤ 1152921504606846976 := by
  refine ⟨prI_nonneg hd, ?_⟩
  have hp := prI_pow hd
  by_cases e : l.length = 6
  · have := h e; omega
  · have := pow_bd l.length (by omega); omega
/-- A part of right dimensions that lies side by side. -/
theorem part_bd {d : List Int} {n : Int} (h : sizeS d = (n, 0)) (i j : Nat) : 0 ≤ prI ((d.drop i).take j) ∧ prI ((d.drop i).take j) ≤ 1152921504606846976 := by
  obtain ⟨h1, h2, h3, h4⟩ := sizeS_ok h
  refine prI_bd (fun x hx => h2 x (List.mem_of_mem_drop (List.mem_of_mem_take hx))) (by simp only [List.length_take, List.length_drop]; omega) fun e => ?_
  simp only [List.length_take, List.length_drop] at e
  have : (d.drop i).take j = d := by
    have hi : i = 0 := by omega
    subst hi
    rw [List.drop_zero, List.take_of_length_le (by omega)]
  rw [this, ← h3]
  exact h4
/-- The number of a place in a frame. -/
def atS : List Int → List Int → Int → Option Int
  | d :: f, n :: o, k => if n < 0 ∨ n ≥ d then none else atS f o (k * d + n)
  | _, _, k => some k
theorem prI_take_succ {f : List Int} {i : Nat} (h : i < f.length) : prI (f.take (i + 1)) = prI (f.take i) * f.getD i 0 := by
  rw [List.take_add_one, prI_app]
  congr 1
  rw [List.getD_eq_getElem?_getD, List.getElem?_eq_getElem h]
  simp [prI]
theorem at_step {k p d n : Int} (hk : 0 ≤ k) (hk' : k < p) (hn : 0 ≤ n) (hn' : n < d) : 0 ≤ k * d ∧ 0 ≤ k * d + n ∧ k * d + n < p * d := by
  have h1 : 0 ≤ k * d := Int.mul_nonneg hk (by omega)
  have h2 : (k + 1) * d ≤ p * d := Int.mul_le_mul_of_nonneg_right (by omega) (by omega)
  rw [Int.add_mul, Int.one_mul] at h2
  exact ⟨h1, by omega, by omega⟩
/-- The cell with an own index, with an error. -/
def cellS (a : Arr) (r : Int) (own : List Int) : Arr × Int :=
  if (splitS a r).2.2 ≠ 0 then (nilA, (splitS a r).2.2)
  else if own.length ≠ (splitS a r).1.length then (nilA, 13)
  else match atS (splitS a r).1 own 0 with
    | none => (nilA, 2)
    | some k => (⟨a.e, (splitS a r).2.1, (a.x.drop (k * prI (splitS a r).2.1).toNat).take (prI (splitS a r).2.1).toNat⟩, 0)
theorem ofE_inv {a : Arr} (h : ofE a = 0) : tyOk a.e = true ∧ sizeS a.d = ((a.x.length : Int), 0) ∧ bad a = false := by
  have ht : tyOk a.e = true := by
    cases e : tyOk a.e with
    | true => rfl
    | false => rw [ofE_ty e] at h; cases h
  have hs : (sizeS a.d).2 = 0 := by
    by_cases e : (sizeS a.d).2 = 0
    · exact e
    · rw [ofE_sz ht e] at h; exact absurd h e
  have hl : (a.x.length : Int) = (sizeS a.d).1 := by
    by_cases e : (a.x.length : Int) = (sizeS a.d).1
    · exact e
    · rw [ofE_len ht hs e] at h; cases h
  have hb : bad a = false := by
    cases e : bad a with
    | false => rfl
    | true => rw [ofE_el ht hs hl, if_pos e] at h; cases h
  exact ⟨ht, Prod.ext hl.symm hs, hb⟩
theorem ofE_zero {a : Arr} (ht : tyOk a.e = true) (hs : sizeS a.d = ((a.x.length : Int), 0)) (hb : bad a = false) : ofE a = 0 := by
  rw [ofE_el ht (by rw [hs]) (by rw [hs]), if_neg (by rw [hb]; decide)]
theorem splitS_inv {a : Arr} {r : Int} {f c : List Int} (h : splitS a r = (f, c, 0)) : ofE a = 0 ∧ a.d = f ++ c ∧ 0 ≤ r ∧ r = c.length := by
  unfold splitS at h
  split at h
  · cases h
  · rename_i h0
    split at h
    · cases h
    · rename_i h1
      cases h
      simp only [ne_eq, Decidable.not_not] at h0
      refine ⟨h0, (List.take_append_drop _ _).symm, by omega, ?_⟩
      simp only [List.length_drop]
      omega
theorem any_part {α : Type} {p : α → Bool} {l : List α} (i j : Nat) (h : l.any p = false) : ((l.drop i).take j).any p = false := by
  rw [List.any_eq_false] at h ⊢
  exact fun x hx => h x (List.mem_of_mem_drop (List.mem_of_mem_take hx))
theorem cell_ok {a : Arr} {f c : List Int} {k : Int} (h0 : ofE a = 0) (hd : a.d = f ++ c) (hf : ∀ x ∈ f, 1 ≤ x) (hk : 0 ≤ k) (hk' : k < prI f) :
    sizeS c = (prI c, 0) ∧ 0 ≤ prI c ∧ 0 ≤ k * prI c ∧ k * prI c + prI c ≤ a.x.length ∧ a.x.length ≤ 4096 ∧ ofE ⟨a.e, c, (a.x.drop (k * prI c).toNat).take (prI c).toNat⟩ = 0 := by
  obtain ⟨ht, hs, hb⟩ := ofE_inv h0
  rw [hd] at hs
  obtain ⟨h1, h2, h3, h4⟩ := sizeS_ok hs
  have hsz := sizeS_part hs hf
  have hc : 0 ≤ prI c := prI_nonneg fun x hx => h2 x (by simp [hx])
  have hm : (k + 1) * prI c ≤ prI f * prI c := Int.mul_le_mul_of_nonneg_right (by omega) hc
  rw [← prI_app, ← h3, Int.add_mul, Int.one_mul] at hm
  have hkc : 0 ≤ k * prI c := Int.mul_nonneg hk hc
  refine ⟨hsz, hc, hkc, hm, by omega, ofE_zero ht ?_ (any_part _ _ hb)⟩
  rw [hsz]
  congr 1
  simp only [List.length_take, List.length_drop]
  omega
end Go.Proofs.Ytjlcbojpiieafaa

/- Cells. -/
namespace Go.Proofs.Ytjlcbojpiieafaa
open Go Go.Fw

structure Lc (f own : List Int) (G : Option Int) where
  i : Nat
  k : Int
  hi : i ≤ own.length
  hk : 0 ≤ k
  hk' : k < prI (f.take i)
  hp : ∀ x ∈ f.take i, 1 ≤ x
  hF : atS (f.drop i) (own.drop i) k = G
theorem take_pos {f : List Int} {i : Nat} (h : i < f.length) (hp : ∀ x ∈ f.take i, 1 ≤ x) (h1 : 1 ≤ f.getD i 0) : ∀ x ∈ f.take (i + 1), 1 ≤ x := by
  intro x hx
  rw [List.take_add_one, List.mem_append] at hx
  rcases hx with hx | hx
  · exact hp x hx
  · rw [List.getElem?_eq_getElem h] at hx
    simp only [Option.toList_some, List.mem_singleton] at hx
    rw [List.getD_eq_getElem?_getD, List.getElem?_eq_getElem h] at h1
    rw [hx]; simpa using h1
noncomputable def E19 : Env := envOf (P := Try.prog) zer (fun _ => false) (fun _ => false) [con20, con61] []
theorem E19_ok : EnvOk Try.prog E19 := envOk zer_ok
set_option maxRecDepth 20000 in
set_option maxHeartbeats 4000000 in
theorem cell_pc {a : Arr} {r : Int} {own : List Int} (ha : okA a) (hr : inI64 r) (hl : own.length ≤ 1000000) : PC Try.prog 22 [arrV a, .lit (.int .i64 r), .sl false 1 (ints .i64 own)] (aeV (cellS a r own)) := by
  unfold cellS
  have hsl := splitS_len r ha
  have ha1 := ha.1
  have ha2 := ha.2
  generalize hS : splitS a r = s at hsl
  obtain ⟨f, c, er⟩ := s
  simp only at hsl
  by_cases e0 : er = 0
  · subst e0
    obtain ⟨h0, hd, hr0, hrl⟩ := splitS_inv hS
    rw [if_neg (by simp)]
    by_cases hn : own.length = f.length
    · have n1 : ((own.length : Int) != (f.length : Int)) = false := by rw [bne_eq_false_iff_eq]; omega
      rw [if_neg (by simpa using hn)]
      simp only
      have hsz := (ofE_inv h0).2.1
      have hbd : ∀ i, i ≤ f.length → 0 ≤ prI (f.take i) ∧ prI (f.take i) ≤ 1152921504606846976 := fun i hi => by
        have := part_bd hsz 0 i
        rwa [hd, List.drop_zero, List.take_append_of_le_length hi] at this
      generalize hG : atS f own 0 = G
      refine pc_of E19_ok mixed (fun _ => [0, 1, 2, 3, 6, 7, 8, 9, 10, 11, 12, 13, 14, 16, 25, 32, 34, 35, 36, 37, 50, 61, 62, 63, 64]) Try.func22 rfl (by kernel_rfl) (Nat.le_of_ble_eq_true rfl) ?_
      simp only [initF_cons, initF_nil, Nat.reduceAdd]
      refine t_name fun KF => ?_
      unfold E19
      repeat' (first
        | with_reducible refine t_seq fun K => ?_
        | with_reducible refine t_block ?_
        | with_reducible refine t_scope ?_
        | with_reducible refine t_label ?_
        | with_reducible refine t_skip ?_
        | with_reducible refine t_exit ?_
        | with_reducible refine t_ret ?_
        | with_reducible refine t_k ?_
        | (with_reducible refine t_gF ?_)
        | ((first | with_reducible refine t_kE ?_ | with_reducible refine t_kD ?_ | with_reducible refine t_gS ?_ | with_reducible refine t_kL ?_ | (with_reducible refine t_kLE ?_ ?_; rotate_left) | with_reducible refine t_region fun K => ?_ | with_reducible refine t_drawE (id := 20) (fun i => i == 0) [(0, true), (1, true), (2, true), (3, true), (4, true), (5, true), (6, true), (7, true), (8, true), (9, true), (10, true), (11, true), (12, true), (13, false), (14, true), (15, false), (16, true)] (by kernel_rfl) fun K => ?_ | with_reducible refine t_draw (by kernel_rfl) fun K => ?_); simp only [go_sem, Int.cast_ofNat_Int, Nat.reduceEqDiff, reduceIte, Nat.reduceAdd, Nat.reduceMul, Nat.reduceLeDiff, Nat.reduceSub, Nat.reduceLT, Nat.zero_lt_succ, Int.reduceToNat, Int.reduceAdd, Int.reduceSub, Int.reduceMul, Int.reduceNeg, Int.reduceLT, Int.reduceLE, Int.reduceEq, Int.reduceBEq, Int.reduceBNe, Nat.reduceBEq, List.reduceReplicate, con20_f, con20_c, con61_f, con61_c, arrV_def, arrOf_agg, slK_sl, hS, spV_def, szV_def, aeV_def, n1, bne_self_eq_false])
        | (with_reducible exact kp_nil)
        | (with_reducible exact Kp.refl _)
        | (with_reducible exact kp_to)
        | (with_reducible refine kp_cons ?_)
        | (with_reducible refine kp_arr ?_)
        | (with_reducible refine kp_app ?_)
        | ((with_reducible refine kp_skip ?_ ?_); rfl)
        | ((with_reducible refine t_cond fun A B => ?_); simp only [go_sem, Int.cast_ofNat_Int, Nat.reduceEqDiff, reduceIte, Nat.reduceAdd, Nat.reduceMul, Nat.reduceLeDiff, Nat.reduceSub, Nat.reduceLT, Nat.zero_lt_succ, Int.reduceToNat, Int.reduceAdd, Int.reduceSub, Int.reduceMul, Int.reduceNeg, Int.reduceLT, Int.reduceLE, Int.reduceEq, Int.reduceBEq, Int.reduceBNe, Nat.reduceBEq, List.reduceReplicate, con20_f, con20_c, con61_f, con61_c, arrV_def, arrOf_agg, slK_sl, hS, spV_def, szV_def, aeV_def, n1, bne_self_eq_false]; first | (with_reducible refine A.h ?_) | (with_reducible refine B.h ?_) | refine And.intro (fun hc => A.h ?_) (fun hc => B.h ?_))
        | simp only [thenQ_n, thenQ_r, thenQ_e, blockQ_n, blockQ_r, blockQ_e, scopeQ_n, scopeQ_r, scopeQ_e, Nat.reduceEqDiff, reduceIte]
        | (with_reducible refine And.intro ?_ ?_)
        | with_reducible intro vr)
      all_goals try (intros; (try simp only [Bool.and_eq_true, Bool.or_eq_true, Bool.not_eq_true', decide_eq_true_eq, decide_eq_false_iff_not, beq_iff_eq, bne_iff_ne, ne_eq, inI64, List.length_append] at *) <;> omega)
      all_goals try exact ha
      all_goals try exact hr
      refine t_loop (ι := Lc f own G) (fun i => ⟨upd (upd (upd (upd (upd (upd (upd (upd (upd topF 36 (.lit (.int .i64 i.i))) 35 (.lit (.int .i64 own.length))) 34 (.sl false 1 (ints .i64 own))) 12 (.lit (.int .i64 1))) 11 (.lit (.int .i64 i.k))) 9 (.sl false 1 (ints .i64 c))) 8 (.sl false 1 (ints .i64 f))) 6 (.ref 1 0)) 3 (.ref 0 0), [AObj.box 33 [.lit (.string a.e), .sl false 1 (ints .i64 a.d), .sl false 1 (ints .i64 a.x)], AObj.box 33 [AV.lit (Value.string ByteArray.empty), AV.sl true 1 [], AV.sl true 1 []]]⟩) (fun i => own.length - i.i) ⟨0, 0, by omega, by omega, by simp [prI], by simp, hG⟩ ?_ ?_
      · skip
        (refine Le.frame ?_; repeat' (first | exact leF_top _ | (with_reducible refine leF_sl ?_ ?_) | (refine leF_upd (LeR.of_eq ?_) ?_))) <;> (try (simp only [go_sem, Int.cast_ofNat_Int, Nat.reduceEqDiff, reduceIte, Nat.reduceAdd, Nat.reduceMul, Nat.reduceLeDiff, Nat.reduceSub, Nat.reduceLT, Nat.zero_lt_succ, Int.reduceToNat, Int.reduceAdd, Int.reduceSub, Int.reduceMul, Int.reduceNeg, Int.reduceLT, Int.reduceLE, Int.reduceEq, Int.reduceBEq, Int.reduceBNe, Nat.reduceBEq, List.reduceReplicate]; try rfl))
      · rintro ⟨i, k, hi, hk, hk', hp, hF⟩ K0
        rcases Nat.lt_or_ge i own.length with hc | hc
        · have hcf : i < f.length := by omega
          have g1 : decide ((i : Int) < (own.length : Int)) = true := decide_eq_true (by omega)
          have g2 := ints_getD .i64 own i hc
          have g3 := ints_getD .i64 f i hcf
          have hnx := prI_take_succ hcf
          have hb1 := hbd (i + 1) (by omega)
          have htp := take_pos hcf hp
          rw [drop_getD 0 hcf, drop_getD 0 hc, atS] at hF
          generalize own.getD i 0 = n at g2 hF
          generalize f.getD i 0 = d at g3 hF hnx htp
          by_cases n0 : n < 0
          · have n0' : decide (n < 0) = true := decide_eq_true n0
            rw [if_pos (.inl n0)] at hF
            subst hF
            repeat' (first
              | with_reducible refine t_seq fun K => ?_
              | with_reducible refine t_block ?_
              | with_reducible refine t_scope ?_
              | with_reducible refine t_label ?_
              | with_reducible refine t_skip ?_
              | with_reducible refine t_exit ?_
              | with_reducible refine t_ret ?_
              | with_reducible refine t_k ?_
              | (with_reducible refine t_gF ?_)
              | ((first | with_reducible refine t_kE ?_ | with_reducible refine t_kD ?_ | with_reducible refine t_gS ?_ | with_reducible refine t_kL ?_ | (with_reducible refine t_kLE ?_ ?_; rotate_left) | with_reducible refine t_region fun K => ?_ | with_reducible refine t_drawE (id := 20) (fun i => i == 0) [(0, true), (1, true), (2, true), (3, true), (4, true), (5, true), (6, true), (7, true), (8, true), (9, true), (10, true), (11, true), (12, true), (13, false), (14, true), (15, false), (16, true)] (by kernel_rfl) fun K => ?_ | with_reducible refine t_draw (by kernel_rfl) fun K => ?_); simp only [go_sem, Int.cast_ofNat_Int, Nat.reduceEqDiff, reduceIte, Nat.reduceAdd, Nat.reduceMul, Nat.reduceLeDiff, Nat.reduceSub, Nat.reduceLT, Nat.zero_lt_succ, Int.reduceToNat, Int.reduceAdd, Int.reduceSub, Int.reduceMul, Int.reduceNeg, Int.reduceLT, Int.reduceLE, Int.reduceEq, Int.reduceBEq, Int.reduceBNe, Nat.reduceBEq, List.reduceReplicate, con20_f, con20_c, con61_f, con61_c, g1, g2, g3, n0', Int.toNat_natCast])
              | (with_reducible exact kp_nil)
              | (with_reducible exact Kp.refl _)
              | (with_reducible exact kp_to)
              | (with_reducible refine kp_cons ?_)
              | (with_reducible refine kp_arr ?_)
              | (with_reducible refine kp_app ?_)
              | ((with_reducible refine kp_skip ?_ ?_); rfl)
              | ((with_reducible refine t_cond fun A B => ?_); simp only [go_sem, Int.cast_ofNat_Int, Nat.reduceEqDiff, reduceIte, Nat.reduceAdd, Nat.reduceMul, Nat.reduceLeDiff, Nat.reduceSub, Nat.reduceLT, Nat.zero_lt_succ, Int.reduceToNat, Int.reduceAdd, Int.reduceSub, Int.reduceMul, Int.reduceNeg, Int.reduceLT, Int.reduceLE, Int.reduceEq, Int.reduceBEq, Int.reduceBNe, Nat.reduceBEq, List.reduceReplicate, con20_f, con20_c, con61_f, con61_c, g1, g2, g3, n0', Int.toNat_natCast]; first | (with_reducible refine A.h ?_) | (with_reducible refine B.h ?_) | refine And.intro (fun hc => A.h ?_) (fun hc => B.h ?_))
              | simp only [thenQ_n, thenQ_r, thenQ_e, blockQ_n, blockQ_r, blockQ_e, scopeQ_n, scopeQ_r, scopeQ_e, Nat.reduceEqDiff, reduceIte]
              | (with_reducible refine And.intro ?_ ?_)
              | with_reducible intro vr)
            all_goals try (intros; (try simp only [Bool.and_eq_true, Bool.or_eq_true, Bool.not_eq_true', decide_eq_true_eq, decide_eq_false_iff_not, beq_iff_eq, bne_iff_ne, ne_eq, inI64, List.length_append] at *) <;> omega)
            refine end_ret rfl ?_
            simp only [fin, go_sem, Int.cast_ofNat_Int, Nat.reduceEqDiff, reduceIte, Nat.reduceAdd, Nat.reduceMul, Nat.reduceLeDiff, Nat.reduceSub, Nat.reduceLT, Nat.zero_lt_succ, Int.reduceToNat, Int.reduceAdd, Int.reduceSub, Int.reduceMul, Int.reduceNeg, Int.reduceLT, Int.reduceLE, Int.reduceEq, Int.reduceBEq, Int.reduceBNe, Nat.reduceBEq, List.reduceReplicate]
            exact nilAe_le
          · have n0' : decide (n < 0) = false := decide_eq_false n0
            by_cases n2 : n ≥ d
            · have n2' : decide (n ≥ d) = true := decide_eq_true n2
              rw [if_pos (.inr n2)] at hF
              subst hF
              repeat' (first
                | with_reducible refine t_seq fun K => ?_
                | with_reducible refine t_block ?_
                | with_reducible refine t_scope ?_
                | with_reducible refine t_label ?_
                | with_reducible refine t_skip ?_
                | with_reducible refine t_exit ?_
                | with_reducible refine t_ret ?_
                | with_reducible refine t_k ?_
                | (with_reducible refine t_gF ?_)
                | ((first | with_reducible refine t_kE ?_ | with_reducible refine t_kD ?_ | with_reducible refine t_gS ?_ | with_reducible refine t_kL ?_ | (with_reducible refine t_kLE ?_ ?_; rotate_left) | with_reducible refine t_region fun K => ?_ | with_reducible refine t_drawE (id := 20) (fun i => i == 0) [(0, true), (1, true), (2, true), (3, true), (4, true), (5, true), (6, true), (7, true), (8, true), (9, true), (10, true), (11, true), (12, true), (13, false), (14, true), (15, false), (16, true)] (by kernel_rfl) fun K => ?_ | with_reducible refine t_draw (by kernel_rfl) fun K => ?_); simp only [go_sem, Int.cast_ofNat_Int, Nat.reduceEqDiff, reduceIte, Nat.reduceAdd, Nat.reduceMul, Nat.reduceLeDiff, Nat.reduceSub, Nat.reduceLT, Nat.zero_lt_succ, Int.reduceToNat, Int.reduceAdd, Int.reduceSub, Int.reduceMul, Int.reduceNeg, Int.reduceLT, Int.reduceLE, Int.reduceEq, Int.reduceBEq, Int.reduceBNe, Nat.reduceBEq, List.reduceReplicate, con20_f, con20_c, con61_f, con61_c, g1, g2, g3, n0', n2', Int.toNat_natCast])
                | (with_reducible exact kp_nil)
                | (with_reducible exact Kp.refl _)
                | (with_reducible exact kp_to)
                | (with_reducible refine kp_cons ?_)
                | (with_reducible refine kp_arr ?_)
                | (with_reducible refine kp_app ?_)
                | ((with_reducible refine kp_skip ?_ ?_); rfl)
                | ((with_reducible refine t_cond fun A B => ?_); simp only [go_sem, Int.cast_ofNat_Int, Nat.reduceEqDiff, reduceIte, Nat.reduceAdd, Nat.reduceMul, Nat.reduceLeDiff, Nat.reduceSub, Nat.reduceLT, Nat.zero_lt_succ, Int.reduceToNat, Int.reduceAdd, Int.reduceSub, Int.reduceMul, Int.reduceNeg, Int.reduceLT, Int.reduceLE, Int.reduceEq, Int.reduceBEq, Int.reduceBNe, Nat.reduceBEq, List.reduceReplicate, con20_f, con20_c, con61_f, con61_c, g1, g2, g3, n0', n2', Int.toNat_natCast]; first | (with_reducible refine A.h ?_) | (with_reducible refine B.h ?_) | refine And.intro (fun hc => A.h ?_) (fun hc => B.h ?_))
                | simp only [thenQ_n, thenQ_r, thenQ_e, blockQ_n, blockQ_r, blockQ_e, scopeQ_n, scopeQ_r, scopeQ_e, Nat.reduceEqDiff, reduceIte]
                | (with_reducible refine And.intro ?_ ?_)
                | with_reducible intro vr)
              all_goals try (intros; (try simp only [Bool.and_eq_true, Bool.or_eq_true, Bool.not_eq_true', decide_eq_true_eq, decide_eq_false_iff_not, beq_iff_eq, bne_iff_ne, ne_eq, inI64, List.length_append] at *) <;> omega)
              refine end_ret rfl ?_
              simp only [fin, go_sem, Int.cast_ofNat_Int, Nat.reduceEqDiff, reduceIte, Nat.reduceAdd, Nat.reduceMul, Nat.reduceLeDiff, Nat.reduceSub, Nat.reduceLT, Nat.zero_lt_succ, Int.reduceToNat, Int.reduceAdd, Int.reduceSub, Int.reduceMul, Int.reduceNeg, Int.reduceLT, Int.reduceLE, Int.reduceEq, Int.reduceBEq, Int.reduceBNe, Nat.reduceBEq, List.reduceReplicate]
              exact nilAe_le
            · have n2' : decide (n ≥ d) = false := decide_eq_false n2
              rw [if_neg (by omega)] at hF
              have hst := at_step hk hk' (show 0 ≤ n by omega) (show n < d by omega)
              rw [hnx] at hb1
              generalize prI (f.take i) * d = pd at hb1 hst hnx
              repeat' (first
                | with_reducible refine t_seq fun K => ?_
                | with_reducible refine t_block ?_
                | with_reducible refine t_scope ?_
                | with_reducible refine t_label ?_
                | with_reducible refine t_skip ?_
                | with_reducible refine t_exit ?_
                | with_reducible refine t_ret ?_
                | with_reducible refine t_k ?_
                | (with_reducible refine t_gF ?_)
                | ((first | with_reducible refine t_kE ?_ | with_reducible refine t_kD ?_ | with_reducible refine t_gS ?_ | with_reducible refine t_kL ?_ | (with_reducible refine t_kLE ?_ ?_; rotate_left) | with_reducible refine t_region fun K => ?_ | with_reducible refine t_drawE (id := 20) (fun i => i == 0) [(0, true), (1, true), (2, true), (3, true), (4, true), (5, true), (6, true), (7, true), (8, true), (9, true), (10, true), (11, true), (12, true), (13, false), (14, true), (15, false), (16, true)] (by kernel_rfl) fun K => ?_ | with_reducible refine t_draw (by kernel_rfl) fun K => ?_); simp only [go_sem, Int.cast_ofNat_Int, Nat.reduceEqDiff, reduceIte, Nat.reduceAdd, Nat.reduceMul, Nat.reduceLeDiff, Nat.reduceSub, Nat.reduceLT, Nat.zero_lt_succ, Int.reduceToNat, Int.reduceAdd, Int.reduceSub, Int.reduceMul, Int.reduceNeg, Int.reduceLT, Int.reduceLE, Int.reduceEq, Int.reduceBEq, Int.reduceBNe, Nat.reduceBEq, List.reduceReplicate, con20_f, con20_c, con61_f, con61_c, g1, g2, g3, n0', n2', Int.toNat_natCast])
                | (with_reducible exact kp_nil)
                | (with_reducible exact Kp.refl _)
                | (with_reducible exact kp_to)
                | (with_reducible refine kp_cons ?_)
                | (with_reducible refine kp_arr ?_)
                | (with_reducible refine kp_app ?_)
                | ((with_reducible refine kp_skip ?_ ?_); rfl)
                | ((with_reducible refine t_cond fun A B => ?_); simp only [go_sem, Int.cast_ofNat_Int, Nat.reduceEqDiff, reduceIte, Nat.reduceAdd, Nat.reduceMul, Nat.reduceLeDiff, Nat.reduceSub, Nat.reduceLT, Nat.zero_lt_succ, Int.reduceToNat, Int.reduceAdd, Int.reduceSub, Int.reduceMul, Int.reduceNeg, Int.reduceLT, Int.reduceLE, Int.reduceEq, Int.reduceBEq, Int.reduceBNe, Nat.reduceBEq, List.reduceReplicate, con20_f, con20_c, con61_f, con61_c, g1, g2, g3, n0', n2', Int.toNat_natCast]; first | (with_reducible refine A.h ?_) | (with_reducible refine B.h ?_) | refine And.intro (fun hc => A.h ?_) (fun hc => B.h ?_))
                | simp only [thenQ_n, thenQ_r, thenQ_e, blockQ_n, blockQ_r, blockQ_e, scopeQ_n, scopeQ_r, scopeQ_e, Nat.reduceEqDiff, reduceIte]
                | (with_reducible refine And.intro ?_ ?_)
                | with_reducible intro vr)
              all_goals try (intros; (try simp only [Bool.and_eq_true, Bool.or_eq_true, Bool.not_eq_true', decide_eq_true_eq, decide_eq_false_iff_not, beq_iff_eq, bne_iff_ne, ne_eq, inI64, List.length_append] at *) <;> omega)
              refine ⟨⟨i + 1, k * d + n, by omega, by omega, by omega, htp (by omega), hF⟩, by simp only; omega, ?_⟩
              (refine Le.frame ?_; repeat' (first | exact leF_top _ | (with_reducible refine leF_sl ?_ ?_) | (refine leF_upd (LeR.of_eq ?_) ?_))) <;> (try (simp only [go_sem, Int.cast_ofNat_Int, Nat.reduceEqDiff, reduceIte, Nat.reduceAdd, Nat.reduceMul, Nat.reduceLeDiff, Nat.reduceSub, Nat.reduceLT, Nat.zero_lt_succ, Int.reduceToNat, Int.reduceAdd, Int.reduceSub, Int.reduceMul, Int.reduceNeg, Int.reduceLT, Int.reduceLE, Int.reduceEq, Int.reduceBEq, Int.reduceBNe, Nat.reduceBEq, List.reduceReplicate]; try rfl))
        · have g1 : decide ((i : Int) < (own.length : Int)) = false := decide_eq_false (by omega)
          rw [List.drop_eq_nil_of_le hc, List.drop_eq_nil_of_le (by omega), atS] at hF
          · subst hF
            rw [List.take_of_length_le (by omega)] at hk' hp
            obtain ⟨hcs, hc0, hkc, hkl, hxl, hO⟩ := cell_ok h0 hd hp hk hk'
            replace hO := ofS_ok hO
            have hq : (a.x.take (k * prI c + prI c).toNat).drop (k * prI c).toNat = (a.x.drop (k * prI c).toNat).take (prI c).toNat := by
              rw [List.drop_take]; congr 1; omega
            simp only
            have hX : ∀ j, j ≤ c.length → 0 ≤ prI (c.take j) ∧ prI (c.take j) ≤ 1152921504606846976 := fun j hj => by
              have := part_bd hsz f.length j
              rwa [hd, List.drop_left] at this
            repeat' (first
              | with_reducible refine t_seq fun K => ?_
              | with_reducible refine t_block ?_
              | with_reducible refine t_scope ?_
              | with_reducible refine t_label ?_
              | with_reducible refine t_skip ?_
              | with_reducible refine t_exit ?_
              | with_reducible refine t_ret ?_
              | with_reducible refine t_k ?_
              | (with_reducible refine t_gF ?_)
              | ((first | with_reducible refine t_kE ?_ | with_reducible refine t_kD ?_ | with_reducible refine t_gS ?_ | with_reducible refine t_kL ?_ | (with_reducible refine t_kLE ?_ ?_; rotate_left) | with_reducible refine t_region fun K => ?_ | with_reducible refine t_drawE (id := 20) (fun i => i == 0) [(0, true), (1, true), (2, true), (3, true), (4, true), (5, true), (6, true), (7, true), (8, true), (9, true), (10, true), (11, true), (12, true), (13, false), (14, true), (15, false), (16, true)] (by kernel_rfl) fun K => ?_ | with_reducible refine t_draw (by kernel_rfl) fun K => ?_); simp only [go_sem, Int.cast_ofNat_Int, Nat.reduceEqDiff, reduceIte, Nat.reduceAdd, Nat.reduceMul, Nat.reduceLeDiff, Nat.reduceSub, Nat.reduceLT, Nat.zero_lt_succ, Int.reduceToNat, Int.reduceAdd, Int.reduceSub, Int.reduceMul, Int.reduceNeg, Int.reduceLT, Int.reduceLE, Int.reduceEq, Int.reduceBEq, Int.reduceBNe, Nat.reduceBEq, List.reduceReplicate, con20_f, con20_c, con61_f, con61_c, arrV_def, arrOf_agg, slK_sl, hS, spV_def, szV_def, aeV_def, g1])
              | (with_reducible exact kp_nil)
              | (with_reducible exact Kp.refl _)
              | (with_reducible exact kp_to)
              | (with_reducible refine kp_cons ?_)
              | (with_reducible refine kp_arr ?_)
              | (with_reducible refine kp_app ?_)
              | ((with_reducible refine kp_skip ?_ ?_); rfl)
              | ((with_reducible refine t_cond fun A B => ?_); simp only [go_sem, Int.cast_ofNat_Int, Nat.reduceEqDiff, reduceIte, Nat.reduceAdd, Nat.reduceMul, Nat.reduceLeDiff, Nat.reduceSub, Nat.reduceLT, Nat.zero_lt_succ, Int.reduceToNat, Int.reduceAdd, Int.reduceSub, Int.reduceMul, Int.reduceNeg, Int.reduceLT, Int.reduceLE, Int.reduceEq, Int.reduceBEq, Int.reduceBNe, Nat.reduceBEq, List.reduceReplicate, con20_f, con20_c, con61_f, con61_c, arrV_def, arrOf_agg, slK_sl, hS, spV_def, szV_def, aeV_def, g1]; first | (with_reducible refine A.h ?_) | (with_reducible refine B.h ?_) | refine And.intro (fun hc => A.h ?_) (fun hc => B.h ?_))
              | simp only [thenQ_n, thenQ_r, thenQ_e, blockQ_n, blockQ_r, blockQ_e, scopeQ_n, scopeQ_r, scopeQ_e, Nat.reduceEqDiff, reduceIte]
              | (with_reducible refine And.intro ?_ ?_)
              | with_reducible intro vr)
            all_goals try (intros; (try simp only [Bool.and_eq_true, Bool.or_eq_true, Bool.not_eq_true', decide_eq_true_eq, decide_eq_false_iff_not, beq_iff_eq, bne_iff_ne, ne_eq, inI64, List.length_append] at *) <;> omega)
            refine t_loop (ι := { p : Nat × Int // p.1 ≤ c.length ∧ p.2 = prI (c.take p.1) }) (fun i => ⟨upd (upd (upd (upd (upd (upd (upd (upd topF 63 (.lit (.int .i64 i.1.1))) 62 (.lit (.int .i64 c.length))) 61 (.sl false 1 (ints .i64 c))) 12 (.lit (.int .i64 i.1.2))) 11 (.lit (.int .i64 k))) 9 (.sl false 1 (ints .i64 c))) 6 (.ref 1 0)) 3 (.ref 0 0), [AObj.box 33 [.lit (.string a.e), .sl false 1 (ints .i64 a.d), .sl false 1 (ints .i64 a.x)], AObj.box 33 [AV.lit (Value.string ByteArray.empty), AV.sl true 1 [], AV.sl true 1 []]]⟩) (fun i => c.length - i.1.1) ⟨(0, 1), by simp, by simp [prI]⟩ ?_ ?_
            · skip
              (refine Le.frame ?_; repeat' (first | exact leF_top _ | (with_reducible refine leF_sl ?_ ?_) | (refine leF_upd (LeR.of_eq ?_) ?_))) <;> (try (simp only [go_sem, Int.cast_ofNat_Int, Nat.reduceEqDiff, reduceIte, Nat.reduceAdd, Nat.reduceMul, Nat.reduceLeDiff, Nat.reduceSub, Nat.reduceLT, Nat.zero_lt_succ, Int.reduceToNat, Int.reduceAdd, Int.reduceSub, Int.reduceMul, Int.reduceNeg, Int.reduceLT, Int.reduceLE, Int.reduceEq, Int.reduceBEq, Int.reduceBNe, Nat.reduceBEq, List.reduceReplicate]; try rfl))
            · rintro ⟨⟨j, m⟩, hj, hmj⟩ K1
              simp only at hj hmj
              rcases Nat.lt_or_ge j c.length with hc | hc
              · have g1 : decide ((j : Int) < (c.length : Int)) = true := decide_eq_true (by omega)
                have g2 := ints_getD .i64 c j hc
                have hnx := prI_take_succ hc
                have hX1 := hX (j + 1) (by omega)
                rw [hnx, ← hmj] at hX1
                rw [← hmj] at hnx
                generalize c.getD j 0 = d at g2 hnx hX1
                repeat' (first
                  | with_reducible refine t_seq fun K => ?_
                  | with_reducible refine t_block ?_
                  | with_reducible refine t_scope ?_
                  | with_reducible refine t_label ?_
                  | with_reducible refine t_skip ?_
                  | with_reducible refine t_exit ?_
                  | with_reducible refine t_ret ?_
                  | with_reducible refine t_k ?_
                  | (with_reducible refine t_gF ?_)
                  | ((first | with_reducible refine t_kE ?_ | with_reducible refine t_kD ?_ | with_reducible refine t_gS ?_ | with_reducible refine t_kL ?_ | (with_reducible refine t_kLE ?_ ?_; rotate_left) | with_reducible refine t_region fun K => ?_ | with_reducible refine t_drawE (id := 20) (fun i => i == 0) [(0, true), (1, true), (2, true), (3, true), (4, true), (5, true), (6, true), (7, true), (8, true), (9, true), (10, true), (11, true), (12, true), (13, false), (14, true), (15, false), (16, true)] (by kernel_rfl) fun K => ?_ | with_reducible refine t_draw (by kernel_rfl) fun K => ?_); simp only [go_sem, Int.cast_ofNat_Int, Nat.reduceEqDiff, reduceIte, Nat.reduceAdd, Nat.reduceMul, Nat.reduceLeDiff, Nat.reduceSub, Nat.reduceLT, Nat.zero_lt_succ, Int.reduceToNat, Int.reduceAdd, Int.reduceSub, Int.reduceMul, Int.reduceNeg, Int.reduceLT, Int.reduceLE, Int.reduceEq, Int.reduceBEq, Int.reduceBNe, Nat.reduceBEq, List.reduceReplicate, con20_f, con20_c, con61_f, con61_c, g1, g2, Int.toNat_natCast])
                  | (with_reducible exact kp_nil)
                  | (with_reducible exact Kp.refl _)
                  | (with_reducible exact kp_to)
                  | (with_reducible refine kp_cons ?_)
                  | (with_reducible refine kp_arr ?_)
                  | (with_reducible refine kp_app ?_)
                  | ((with_reducible refine kp_skip ?_ ?_); rfl)
                  | ((with_reducible refine t_cond fun A B => ?_); simp only [go_sem, Int.cast_ofNat_Int, Nat.reduceEqDiff, reduceIte, Nat.reduceAdd, Nat.reduceMul, Nat.reduceLeDiff, Nat.reduceSub, Nat.reduceLT, Nat.zero_lt_succ, Int.reduceToNat, Int.reduceAdd, Int.reduceSub, Int.reduceMul, Int.reduceNeg, Int.reduceLT, Int.reduceLE, Int.reduceEq, Int.reduceBEq, Int.reduceBNe, Nat.reduceBEq, List.reduceReplicate, con20_f, con20_c, con61_f, con61_c, g1, g2, Int.toNat_natCast]; first | (with_reducible refine A.h ?_) | (with_reducible refine B.h ?_) | refine And.intro (fun hc => A.h ?_) (fun hc => B.h ?_))
                  | simp only [thenQ_n, thenQ_r, thenQ_e, blockQ_n, blockQ_r, blockQ_e, scopeQ_n, scopeQ_r, scopeQ_e, Nat.reduceEqDiff, reduceIte]
                  | (with_reducible refine And.intro ?_ ?_)
                  | with_reducible intro vr)
                all_goals try (intros; (try simp only [Bool.and_eq_true, Bool.or_eq_true, Bool.not_eq_true', decide_eq_true_eq, decide_eq_false_iff_not, beq_iff_eq, bne_iff_ne, ne_eq, inI64, List.length_append] at *) <;> omega)
                refine ⟨⟨(j + 1, m * d), by simp only; omega, hnx.symm⟩, by simp only; omega, ?_⟩
                (refine Le.frame ?_; repeat' (first | exact leF_top _ | (with_reducible refine leF_sl ?_ ?_) | (refine leF_upd (LeR.of_eq ?_) ?_))) <;> (try (simp only [go_sem, Int.cast_ofNat_Int, Nat.reduceEqDiff, reduceIte, Nat.reduceAdd, Nat.reduceMul, Nat.reduceLeDiff, Nat.reduceSub, Nat.reduceLT, Nat.zero_lt_succ, Int.reduceToNat, Int.reduceAdd, Int.reduceSub, Int.reduceMul, Int.reduceNeg, Int.reduceLT, Int.reduceLE, Int.reduceEq, Int.reduceBEq, Int.reduceBNe, Nat.reduceBEq, List.reduceReplicate]; try rfl))
              · have g1 : decide ((j : Int) < (c.length : Int)) = false := decide_eq_false (by omega)
                rw [List.take_of_length_le hc] at hmj
                subst hmj
                repeat' (first
                  | with_reducible refine t_seq fun K => ?_
                  | with_reducible refine t_block ?_
                  | with_reducible refine t_scope ?_
                  | with_reducible refine t_label ?_
                  | with_reducible refine t_skip ?_
                  | with_reducible refine t_exit ?_
                  | with_reducible refine t_ret ?_
                  | with_reducible refine t_k ?_
                  | (with_reducible refine t_gF ?_)
                  | ((first | with_reducible refine t_kE ?_ | with_reducible refine t_kD ?_ | with_reducible refine t_gS ?_ | with_reducible refine t_kL ?_ | (with_reducible refine t_kLE ?_ ?_; rotate_left) | with_reducible refine t_region fun K => ?_ | with_reducible refine t_drawE (id := 20) (fun i => i == 0) [(0, true), (1, true), (2, true), (3, true), (4, true), (5, true), (6, true), (7, true), (8, true), (9, true), (10, true), (11, true), (12, true), (13, false), (14, true), (15, false), (16, true)] (by kernel_rfl) fun K => ?_ | with_reducible refine t_draw (by kernel_rfl) fun K => ?_); simp only [go_sem, Int.cast_ofNat_Int, Nat.reduceEqDiff, reduceIte, Nat.reduceAdd, Nat.reduceMul, Nat.reduceLeDiff, Nat.reduceSub, Nat.reduceLT, Nat.zero_lt_succ, Int.reduceToNat, Int.reduceAdd, Int.reduceSub, Int.reduceMul, Int.reduceNeg, Int.reduceLT, Int.reduceLE, Int.reduceEq, Int.reduceBEq, Int.reduceBNe, Nat.reduceBEq, List.reduceReplicate, con20_f, con20_c, con61_f, con61_c, arrV_def, arrOf_agg, slK_sl, hS, spV_def, szV_def, aeV_def, g1, hq, List.length_take, List.length_drop])
                  | (with_reducible exact kp_nil)
                  | (with_reducible exact Kp.refl _)
                  | (with_reducible exact kp_to)
                  | (with_reducible refine kp_cons ?_)
                  | (with_reducible refine kp_arr ?_)
                  | (with_reducible refine kp_app ?_)
                  | ((with_reducible refine kp_skip ?_ ?_); rfl)
                  | ((with_reducible refine t_cond fun A B => ?_); simp only [go_sem, Int.cast_ofNat_Int, Nat.reduceEqDiff, reduceIte, Nat.reduceAdd, Nat.reduceMul, Nat.reduceLeDiff, Nat.reduceSub, Nat.reduceLT, Nat.zero_lt_succ, Int.reduceToNat, Int.reduceAdd, Int.reduceSub, Int.reduceMul, Int.reduceNeg, Int.reduceLT, Int.reduceLE, Int.reduceEq, Int.reduceBEq, Int.reduceBNe, Nat.reduceBEq, List.reduceReplicate, con20_f, con20_c, con61_f, con61_c, arrV_def, arrOf_agg, slK_sl, hS, spV_def, szV_def, aeV_def, g1, hq, List.length_take, List.length_drop]; first | (with_reducible refine A.h ?_) | (with_reducible refine B.h ?_) | refine And.intro (fun hc => A.h ?_) (fun hc => B.h ?_))
                  | simp only [thenQ_n, thenQ_r, thenQ_e, blockQ_n, blockQ_r, blockQ_e, scopeQ_n, scopeQ_r, scopeQ_e, Nat.reduceEqDiff, reduceIte]
                  | (with_reducible refine And.intro ?_ ?_)
                  | with_reducible intro vr)
                all_goals try (intros; (try simp only [Bool.and_eq_true, Bool.or_eq_true, Bool.not_eq_true', decide_eq_true_eq, decide_eq_false_iff_not, beq_iff_eq, bne_iff_ne, ne_eq, inI64, List.length_append] at *) <;> omega)
                all_goals try exact trivial
                refine end_ret rfl ?_
                simp only [fin, go_sem, Int.cast_ofNat_Int, Nat.reduceEqDiff, reduceIte, Nat.reduceAdd, Nat.reduceMul, Nat.reduceLeDiff, Nat.reduceSub, Nat.reduceLT, Nat.zero_lt_succ, Int.reduceToNat, Int.reduceAdd, Int.reduceSub, Int.reduceMul, Int.reduceNeg, Int.reduceLT, Int.reduceLE, Int.reduceEq, Int.reduceBEq, Int.reduceBNe, Nat.reduceBEq, List.reduceReplicate]
                exact LeA.refl _
          · intro _ _ _ _ h; cases h
    · have n1 : ((own.length : Int) != (f.length : Int)) = true := by rw [bne_iff_ne]; omega
      rw [if_pos hn]
      refine pc_of E19_ok mixed (fun _ => [0, 1, 2, 3, 6, 7, 8, 9, 10, 11, 12, 13, 14, 16, 25, 32, 34, 35, 36, 37, 50, 61, 62, 63, 64]) Try.func22 rfl (by kernel_rfl) (Nat.le_of_ble_eq_true rfl) ?_
      simp only [initF_cons, initF_nil, Nat.reduceAdd]
      refine t_name fun KF => ?_
      unfold E19
      repeat' (first
        | with_reducible refine t_seq fun K => ?_
        | with_reducible refine t_block ?_
        | with_reducible refine t_scope ?_
        | with_reducible refine t_label ?_
        | with_reducible refine t_skip ?_
        | with_reducible refine t_exit ?_
        | with_reducible refine t_ret ?_
        | with_reducible refine t_k ?_
        | (with_reducible refine t_gF ?_)
        | ((first | with_reducible refine t_kE ?_ | with_reducible refine t_kD ?_ | with_reducible refine t_gS ?_ | with_reducible refine t_kL ?_ | (with_reducible refine t_kLE ?_ ?_; rotate_left) | with_reducible refine t_region fun K => ?_ | with_reducible refine t_drawE (id := 20) (fun i => i == 0) [(0, true), (1, true), (2, true), (3, true), (4, true), (5, true), (6, true), (7, true), (8, true), (9, true), (10, true), (11, true), (12, true), (13, false), (14, true), (15, false), (16, true)] (by kernel_rfl) fun K => ?_ | with_reducible refine t_draw (by kernel_rfl) fun K => ?_); simp only [go_sem, Int.cast_ofNat_Int, Nat.reduceEqDiff, reduceIte, Nat.reduceAdd, Nat.reduceMul, Nat.reduceLeDiff, Nat.reduceSub, Nat.reduceLT, Nat.zero_lt_succ, Int.reduceToNat, Int.reduceAdd, Int.reduceSub, Int.reduceMul, Int.reduceNeg, Int.reduceLT, Int.reduceLE, Int.reduceEq, Int.reduceBEq, Int.reduceBNe, Nat.reduceBEq, List.reduceReplicate, con20_f, con20_c, con61_f, con61_c, arrV_def, arrOf_agg, slK_sl, hS, spV_def, szV_def, aeV_def, n1, bne_self_eq_false])
        | (with_reducible exact kp_nil)
        | (with_reducible exact Kp.refl _)
        | (with_reducible exact kp_to)
        | (with_reducible refine kp_cons ?_)
        | (with_reducible refine kp_arr ?_)
        | (with_reducible refine kp_app ?_)
        | ((with_reducible refine kp_skip ?_ ?_); rfl)
        | ((with_reducible refine t_cond fun A B => ?_); simp only [go_sem, Int.cast_ofNat_Int, Nat.reduceEqDiff, reduceIte, Nat.reduceAdd, Nat.reduceMul, Nat.reduceLeDiff, Nat.reduceSub, Nat.reduceLT, Nat.zero_lt_succ, Int.reduceToNat, Int.reduceAdd, Int.reduceSub, Int.reduceMul, Int.reduceNeg, Int.reduceLT, Int.reduceLE, Int.reduceEq, Int.reduceBEq, Int.reduceBNe, Nat.reduceBEq, List.reduceReplicate, con20_f, con20_c, con61_f, con61_c, arrV_def, arrOf_agg, slK_sl, hS, spV_def, szV_def, aeV_def, n1, bne_self_eq_false]; first | (with_reducible refine A.h ?_) | (with_reducible refine B.h ?_) | refine And.intro (fun hc => A.h ?_) (fun hc => B.h ?_))
        | simp only [thenQ_n, thenQ_r, thenQ_e, blockQ_n, blockQ_r, blockQ_e, scopeQ_n, scopeQ_r, scopeQ_e, Nat.reduceEqDiff, reduceIte]
        | (with_reducible refine And.intro ?_ ?_)
        | with_reducible intro vr)
      all_goals try (intros; (try simp only [Bool.and_eq_true, Bool.or_eq_true, Bool.not_eq_true', decide_eq_true_eq, decide_eq_false_iff_not, beq_iff_eq, bne_iff_ne, ne_eq, inI64, List.length_append] at *) <;> omega)
      all_goals try exact ha
      all_goals try exact hr
      refine end_ret rfl ?_
      simp only [fin, go_sem, Int.cast_ofNat_Int, Nat.reduceEqDiff, reduceIte, Nat.reduceAdd, Nat.reduceMul, Nat.reduceLeDiff, Nat.reduceSub, Nat.reduceLT, Nat.zero_lt_succ, Int.reduceToNat, Int.reduceAdd, Int.reduceSub, Int.reduceMul, Int.reduceNeg, Int.reduceLT, Int.reduceLE, Int.reduceEq, Int.reduceBEq, Int.reduceBNe, Nat.reduceBEq, List.reduceReplicate]
      exact nilAe_le
  · have e1 : (er != 0) = true := by rw [bne_iff_ne]; exact e0
    rw [if_pos (by simpa using e0)]
    refine pc_of E19_ok mixed (fun _ => [0, 1, 2, 3, 6, 7, 8, 9, 10, 11, 12, 13, 14, 16, 25, 32, 34, 35, 36, 37, 50, 61, 62, 63, 64]) Try.func22 rfl (by kernel_rfl) (Nat.le_of_ble_eq_true rfl) ?_
    simp only [initF_cons, initF_nil, Nat.reduceAdd]
    refine t_name fun KF => ?_
    unfold E19
    repeat' (first
      | with_reducible refine t_seq fun K => ?_
      | with_reducible refine t_block ?_
      | with_reducible refine t_scope ?_
      | with_reducible refine t_label ?_
      | with_reducible refine t_skip ?_
      | with_reducible refine t_exit ?_
      | with_reducible refine t_ret ?_
      | with_reducible refine t_k ?_
      | (with_reducible refine t_gF ?_)
      | ((first | with_reducible refine t_kE ?_ | with_reducible refine t_kD ?_ | with_reducible refine t_gS ?_ | with_reducible refine t_kL ?_ | (with_reducible refine t_kLE ?_ ?_; rotate_left) | with_reducible refine t_region fun K => ?_ | with_reducible refine t_drawE (id := 20) (fun i => i == 0) [(0, true), (1, true), (2, true), (3, true), (4, true), (5, true), (6, true), (7, true), (8, true), (9, true), (10, true), (11, true), (12, true), (13, false), (14, true), (15, false), (16, true)] (by kernel_rfl) fun K => ?_ | with_reducible refine t_draw (by kernel_rfl) fun K => ?_); simp only [go_sem, Int.cast_ofNat_Int, Nat.reduceEqDiff, reduceIte, Nat.reduceAdd, Nat.reduceMul, Nat.reduceLeDiff, Nat.reduceSub, Nat.reduceLT, Nat.zero_lt_succ, Int.reduceToNat, Int.reduceAdd, Int.reduceSub, Int.reduceMul, Int.reduceNeg, Int.reduceLT, Int.reduceLE, Int.reduceEq, Int.reduceBEq, Int.reduceBNe, Nat.reduceBEq, List.reduceReplicate, con20_f, con20_c, con61_f, con61_c, arrV_def, arrOf_agg, slK_sl, hS, spV_def, szV_def, aeV_def, e1])
      | (with_reducible exact kp_nil)
      | (with_reducible exact Kp.refl _)
      | (with_reducible exact kp_to)
      | (with_reducible refine kp_cons ?_)
      | (with_reducible refine kp_arr ?_)
      | (with_reducible refine kp_app ?_)
      | ((with_reducible refine kp_skip ?_ ?_); rfl)
      | ((with_reducible refine t_cond fun A B => ?_); simp only [go_sem, Int.cast_ofNat_Int, Nat.reduceEqDiff, reduceIte, Nat.reduceAdd, Nat.reduceMul, Nat.reduceLeDiff, Nat.reduceSub, Nat.reduceLT, Nat.zero_lt_succ, Int.reduceToNat, Int.reduceAdd, Int.reduceSub, Int.reduceMul, Int.reduceNeg, Int.reduceLT, Int.reduceLE, Int.reduceEq, Int.reduceBEq, Int.reduceBNe, Nat.reduceBEq, List.reduceReplicate, con20_f, con20_c, con61_f, con61_c, arrV_def, arrOf_agg, slK_sl, hS, spV_def, szV_def, aeV_def, e1]; first | (with_reducible refine A.h ?_) | (with_reducible refine B.h ?_) | refine And.intro (fun hc => A.h ?_) (fun hc => B.h ?_))
      | simp only [thenQ_n, thenQ_r, thenQ_e, blockQ_n, blockQ_r, blockQ_e, scopeQ_n, scopeQ_r, scopeQ_e, Nat.reduceEqDiff, reduceIte]
      | (with_reducible refine And.intro ?_ ?_)
      | with_reducible intro vr)
    all_goals try (intros; (try simp only [Bool.and_eq_true, Bool.or_eq_true, Bool.not_eq_true', decide_eq_true_eq, decide_eq_false_iff_not, beq_iff_eq, bne_iff_ne, ne_eq, inI64, List.length_append] at *) <;> omega)
    all_goals try exact ha
    all_goals try exact hr
    refine end_ret rfl ?_
    simp only [fin, go_sem, Int.cast_ofNat_Int, Nat.reduceEqDiff, reduceIte, Nat.reduceAdd, Nat.reduceMul, Nat.reduceLeDiff, Nat.reduceSub, Nat.reduceLT, Nat.zero_lt_succ, Int.reduceToNat, Int.reduceAdd, Int.reduceSub, Int.reduceMul, Int.reduceNeg, Int.reduceLT, Int.reduceLE, Int.reduceEq, Int.reduceBEq, Int.reduceBNe, Nat.reduceBEq, List.reduceReplicate]
    exact nilAe_le
noncomputable def con22 : PCon Try.prog where
  f := 22
  c := fun
    | [xa, .lit (.int .i64 r), xown] => match arrOf xa, slK .i64 xown with | some a, some own => some (okA a ∧ inI64 r ∧ own.length ≤ 1000000, aeV (cellS a r own)) | _, _ => none
    | _ => none
  ok := by
    intro args p r hc hp
    split at hc
    · split at hc
      · rename_i ha hown
        cases hc
        exact PC.weak ((fun hp : _ ∧ _ ∧ _ => cell_pc hp.1 hp.2.1 hp.2.2) hp) ⟨arrOf_le ha, LeA.refl _, slK_le hown, trivial⟩
      · cases hc
    · cases hc
  fk := fk22
theorem con22_f : con22.f = 22 := rfl
theorem con22_c {xa : AV} {r : Int} {xown : AV} : con22.c [xa, .lit (.int .i64 r), xown] = match arrOf xa, slK .i64 xown with | some a, some own => some (okA a ∧ inI64 r ∧ own.length ≤ 1000000, aeV (cellS a r own)) | _, _ => none := rfl
noncomputable def E20 : Env := envOf (P := Try.prog) zer (fun _ => false) (fun _ => false) [con21, con30, con63] []
theorem E20_ok : EnvOk Try.prog E20 := envOk zer_ok
set_option maxRecDepth 20000 in
set_option maxHeartbeats 4000000 in
theorem rcell_pc {a : Arr} {r : Int} {own : List Int} (ha : okA a) (hr : inI64 r) (hl : own.length ≤ 1000000) : PC Try.prog 23 [arrV a, .lit (.int .i64 r), .sl false 1 (ints .i64 own)] (aeV (cellS a r own)) := by
  unfold cellS
  have hsl := splitS_len r ha
  have ha1 := ha.1
  have ha2 := ha.2
  generalize hS : splitS a r = s at hsl
  obtain ⟨f, c, er⟩ := s
  simp only at hsl
  by_cases e0 : er = 0
  · subst e0
    obtain ⟨h0, hd, hr0, hrl⟩ := splitS_inv hS
    rw [if_neg (by simp)]
    by_cases hn : own.length = f.length
    · have n1 : ((own.length : Int) != (f.length : Int)) = false := by rw [bne_eq_false_iff_eq]; omega
      rw [if_neg (by simpa using hn)]
      simp only
      have hsz := (ofE_inv h0).2.1
      have hbd : ∀ i, i ≤ f.length → 0 ≤ prI (f.take i) ∧ prI (f.take i) ≤ 1152921504606846976 := fun i hi => by
        have := part_bd hsz 0 i
        rwa [hd, List.drop_zero, List.take_append_of_le_length hi] at this
      generalize hG : atS f own 0 = G
      refine pc_of E20_ok mixed (fun _ => [0, 1, 2, 3, 6, 7, 8, 9, 10, 11, 12, 13, 22, 29, 34, 52, 71]) Try.func23 rfl (by kernel_rfl) (Nat.le_of_ble_eq_true rfl) ?_
      simp only [initF_cons, initF_nil, Nat.reduceAdd]
      refine t_name fun KF => ?_
      unfold E20
      repeat' (first
        | with_reducible refine t_seq fun K => ?_
        | with_reducible refine t_block ?_
        | with_reducible refine t_scope ?_
        | with_reducible refine t_label ?_
        | with_reducible refine t_skip ?_
        | with_reducible refine t_exit ?_
        | with_reducible refine t_ret ?_
        | with_reducible refine t_k ?_
        | (with_reducible refine t_gF ?_)
        | ((first | with_reducible refine t_kE ?_ | with_reducible refine t_kD ?_ | with_reducible refine t_gS ?_ | with_reducible refine t_kL ?_ | (with_reducible refine t_kLE ?_ ?_; rotate_left) | with_reducible refine t_region fun K => ?_ | with_reducible refine t_drawE (id := 16) (fun i => i == 0) [(0, true), (1, true), (2, true), (3, true), (4, true), (5, true), (6, true), (7, true), (8, true), (9, true), (10, true), (11, true), (12, true), (13, true), (14, false), (15, true), (16, true), (17, false), (18, true)] (by kernel_rfl) fun K => ?_ | with_reducible refine t_draw (by kernel_rfl) fun K => ?_); simp only [go_sem, Int.cast_ofNat_Int, Nat.reduceEqDiff, reduceIte, Nat.reduceAdd, Nat.reduceMul, Nat.reduceLeDiff, Nat.reduceSub, Nat.reduceLT, Nat.zero_lt_succ, Int.reduceToNat, Int.reduceAdd, Int.reduceSub, Int.reduceMul, Int.reduceNeg, Int.reduceLT, Int.reduceLE, Int.reduceEq, Int.reduceBEq, Int.reduceBNe, Nat.reduceBEq, List.reduceReplicate, con21_f, con21_c, con30_f, con30_c, con63_f, con63_c, arrV_def, arrOf_agg, slK_sl, hS, spV_def, szV_def, aeV_def, n1, bne_self_eq_false])
        | (with_reducible exact kp_nil)
        | (with_reducible exact Kp.refl _)
        | (with_reducible exact kp_to)
        | (with_reducible refine kp_cons ?_)
        | (with_reducible refine kp_arr ?_)
        | (with_reducible refine kp_app ?_)
        | ((with_reducible refine kp_skip ?_ ?_); rfl)
        | ((with_reducible refine t_cond fun A B => ?_); simp only [go_sem, Int.cast_ofNat_Int, Nat.reduceEqDiff, reduceIte, Nat.reduceAdd, Nat.reduceMul, Nat.reduceLeDiff, Nat.reduceSub, Nat.reduceLT, Nat.zero_lt_succ, Int.reduceToNat, Int.reduceAdd, Int.reduceSub, Int.reduceMul, Int.reduceNeg, Int.reduceLT, Int.reduceLE, Int.reduceEq, Int.reduceBEq, Int.reduceBNe, Nat.reduceBEq, List.reduceReplicate, con21_f, con21_c, con30_f, con30_c, con63_f, con63_c, arrV_def, arrOf_agg, slK_sl, hS, spV_def, szV_def, aeV_def, n1, bne_self_eq_false]; first | (with_reducible refine A.h ?_) | (with_reducible refine B.h ?_) | refine And.intro (fun hc => A.h ?_) (fun hc => B.h ?_))
        | simp only [thenQ_n, thenQ_r, thenQ_e, blockQ_n, blockQ_r, blockQ_e, scopeQ_n, scopeQ_r, scopeQ_e, Nat.reduceEqDiff, reduceIte]
        | (with_reducible refine And.intro ?_ ?_)
        | with_reducible intro vr)
      all_goals try (intros; (try simp only [Bool.and_eq_true, Bool.or_eq_true, Bool.not_eq_true', decide_eq_true_eq, decide_eq_false_iff_not, beq_iff_eq, bne_iff_ne, ne_eq, inI64, List.length_append] at *) <;> omega)
      all_goals try exact ha
      all_goals try exact hr
      refine t_loop (ι := Lc f own G) (fun i => ⟨upd (upd (upd (upd (upd (upd (upd topF 12 (.lit (.int .i64 i.i))) 11 (.lit (.int .i64 i.k))) 9 (.sl false 1 (ints .i64 c))) 8 (.sl false 1 (ints .i64 f))) 6 (.ref 1 0)) 3 (.ref 0 0)) 2 (.sl false 1 (ints .i64 own)), [AObj.box 33 [.lit (.string a.e), .sl false 1 (ints .i64 a.d), .sl false 1 (ints .i64 a.x)], AObj.box 33 [AV.lit (Value.string ByteArray.empty), AV.sl true 1 [], AV.sl true 1 []]]⟩) (fun i => own.length - i.i) ⟨0, 0, by omega, by omega, by simp [prI], by simp, hG⟩ ?_ ?_
      · skip
        (refine Le.frame ?_; repeat' (first | exact leF_top _ | (with_reducible refine leF_sl ?_ ?_) | (refine leF_upd (LeR.of_eq ?_) ?_))) <;> (try (simp only [go_sem, Int.cast_ofNat_Int, Nat.reduceEqDiff, reduceIte, Nat.reduceAdd, Nat.reduceMul, Nat.reduceLeDiff, Nat.reduceSub, Nat.reduceLT, Nat.zero_lt_succ, Int.reduceToNat, Int.reduceAdd, Int.reduceSub, Int.reduceMul, Int.reduceNeg, Int.reduceLT, Int.reduceLE, Int.reduceEq, Int.reduceBEq, Int.reduceBNe, Nat.reduceBEq, List.reduceReplicate]; try rfl))
      · rintro ⟨i, k, hi, hk, hk', hp, hF⟩ K0
        rcases Nat.lt_or_ge i own.length with hc | hc
        · have hcf : i < f.length := by omega
          have g1 : decide ((i : Int) < (own.length : Int)) = true := decide_eq_true (by omega)
          have g2 := ints_getD .i64 own i hc
          have g3 := ints_getD .i64 f i hcf
          have hnx := prI_take_succ hcf
          have hb1 := hbd (i + 1) (by omega)
          have htp := take_pos hcf hp
          rw [drop_getD 0 hcf, drop_getD 0 hc, atS] at hF
          generalize own.getD i 0 = n at g2 hF
          generalize f.getD i 0 = d at g3 hF hnx htp
          by_cases n0 : n < 0
          · have n0' : decide (n < 0) = true := decide_eq_true n0
            rw [if_pos (.inl n0)] at hF
            subst hF
            repeat' (first
              | with_reducible refine t_seq fun K => ?_
              | with_reducible refine t_block ?_
              | with_reducible refine t_scope ?_
              | with_reducible refine t_label ?_
              | with_reducible refine t_skip ?_
              | with_reducible refine t_exit ?_
              | with_reducible refine t_ret ?_
              | with_reducible refine t_k ?_
              | (with_reducible refine t_gF ?_)
              | ((first | with_reducible refine t_kE ?_ | with_reducible refine t_kD ?_ | with_reducible refine t_gS ?_ | with_reducible refine t_kL ?_ | (with_reducible refine t_kLE ?_ ?_; rotate_left) | with_reducible refine t_region fun K => ?_ | with_reducible refine t_drawE (id := 16) (fun i => i == 0) [(0, true), (1, true), (2, true), (3, true), (4, true), (5, true), (6, true), (7, true), (8, true), (9, true), (10, true), (11, true), (12, true), (13, true), (14, false), (15, true), (16, true), (17, false), (18, true)] (by kernel_rfl) fun K => ?_ | with_reducible refine t_draw (by kernel_rfl) fun K => ?_); simp only [go_sem, Int.cast_ofNat_Int, Nat.reduceEqDiff, reduceIte, Nat.reduceAdd, Nat.reduceMul, Nat.reduceLeDiff, Nat.reduceSub, Nat.reduceLT, Nat.zero_lt_succ, Int.reduceToNat, Int.reduceAdd, Int.reduceSub, Int.reduceMul, Int.reduceNeg, Int.reduceLT, Int.reduceLE, Int.reduceEq, Int.reduceBEq, Int.reduceBNe, Nat.reduceBEq, List.reduceReplicate, con21_f, con21_c, con30_f, con30_c, con63_f, con63_c, g1, g2, g3, n0', Int.toNat_natCast])
              | (with_reducible exact kp_nil)
              | (with_reducible exact Kp.refl _)
              | (with_reducible exact kp_to)
              | (with_reducible refine kp_cons ?_)
              | (with_reducible refine kp_arr ?_)
              | (with_reducible refine kp_app ?_)
              | ((with_reducible refine kp_skip ?_ ?_); rfl)
              | ((with_reducible refine t_cond fun A B => ?_); simp only [go_sem, Int.cast_ofNat_Int, Nat.reduceEqDiff, reduceIte, Nat.reduceAdd, Nat.reduceMul, Nat.reduceLeDiff, Nat.reduceSub, Nat.reduceLT, Nat.zero_lt_succ, Int.reduceToNat, Int.reduceAdd, Int.reduceSub, Int.reduceMul, Int.reduceNeg, Int.reduceLT, Int.reduceLE, Int.reduceEq, Int.reduceBEq, Int.reduceBNe, Nat.reduceBEq, List.reduceReplicate, con21_f, con21_c, con30_f, con30_c, con63_f, con63_c, g1, g2, g3, n0', Int.toNat_natCast]; first | (with_reducible refine A.h ?_) | (with_reducible refine B.h ?_) | refine And.intro (fun hc => A.h ?_) (fun hc => B.h ?_))
              | simp only [thenQ_n, thenQ_r, thenQ_e, blockQ_n, blockQ_r, blockQ_e, scopeQ_n, scopeQ_r, scopeQ_e, Nat.reduceEqDiff, reduceIte]
              | (with_reducible refine And.intro ?_ ?_)
              | with_reducible intro vr)
            all_goals try (intros; (try simp only [Bool.and_eq_true, Bool.or_eq_true, Bool.not_eq_true', decide_eq_true_eq, decide_eq_false_iff_not, beq_iff_eq, bne_iff_ne, ne_eq, inI64, List.length_append] at *) <;> omega)
            refine end_ret rfl ?_
            simp only [fin, go_sem, Int.cast_ofNat_Int, Nat.reduceEqDiff, reduceIte, Nat.reduceAdd, Nat.reduceMul, Nat.reduceLeDiff, Nat.reduceSub, Nat.reduceLT, Nat.zero_lt_succ, Int.reduceToNat, Int.reduceAdd, Int.reduceSub, Int.reduceMul, Int.reduceNeg, Int.reduceLT, Int.reduceLE, Int.reduceEq, Int.reduceBEq, Int.reduceBNe, Nat.reduceBEq, List.reduceReplicate]
            exact nilAe_le
          · have n0' : decide (n < 0) = false := decide_eq_false n0
            by_cases n2 : n ≥ d
            · have n2' : decide (n ≥ d) = true := decide_eq_true n2
              rw [if_pos (.inr n2)] at hF
              subst hF
              repeat' (first
                | with_reducible refine t_seq fun K => ?_
                | with_reducible refine t_block ?_
                | with_reducible refine t_scope ?_
                | with_reducible refine t_label ?_
                | with_reducible refine t_skip ?_
                | with_reducible refine t_exit ?_
                | with_reducible refine t_ret ?_
                | with_reducible refine t_k ?_
                | (with_reducible refine t_gF ?_)
                | ((first | with_reducible refine t_kE ?_ | with_reducible refine t_kD ?_ | with_reducible refine t_gS ?_ | with_reducible refine t_kL ?_ | (with_reducible refine t_kLE ?_ ?_; rotate_left) | with_reducible refine t_region fun K => ?_ | with_reducible refine t_drawE (id := 16) (fun i => i == 0) [(0, true), (1, true), (2, true), (3, true), (4, true), (5, true), (6, true), (7, true), (8, true), (9, true), (10, true), (11, true), (12, true), (13, true), (14, false), (15, true), (16, true), (17, false), (18, true)] (by kernel_rfl) fun K => ?_ | with_reducible refine t_draw (by kernel_rfl) fun K => ?_); simp only [go_sem, Int.cast_ofNat_Int, Nat.reduceEqDiff, reduceIte, Nat.reduceAdd, Nat.reduceMul, Nat.reduceLeDiff, Nat.reduceSub, Nat.reduceLT, Nat.zero_lt_succ, Int.reduceToNat, Int.reduceAdd, Int.reduceSub, Int.reduceMul, Int.reduceNeg, Int.reduceLT, Int.reduceLE, Int.reduceEq, Int.reduceBEq, Int.reduceBNe, Nat.reduceBEq, List.reduceReplicate, con21_f, con21_c, con30_f, con30_c, con63_f, con63_c, g1, g2, g3, n0', n2', Int.toNat_natCast])
                | (with_reducible exact kp_nil)
                | (with_reducible exact Kp.refl _)
                | (with_reducible exact kp_to)
                | (with_reducible refine kp_cons ?_)
                | (with_reducible refine kp_arr ?_)
                | (with_reducible refine kp_app ?_)
                | ((with_reducible refine kp_skip ?_ ?_); rfl)
                | ((with_reducible refine t_cond fun A B => ?_); simp only [go_sem, Int.cast_ofNat_Int, Nat.reduceEqDiff, reduceIte, Nat.reduceAdd, Nat.reduceMul, Nat.reduceLeDiff, Nat.reduceSub, Nat.reduceLT, Nat.zero_lt_succ, Int.reduceToNat, Int.reduceAdd, Int.reduceSub, Int.reduceMul, Int.reduceNeg, Int.reduceLT, Int.reduceLE, Int.reduceEq, Int.reduceBEq, Int.reduceBNe, Nat.reduceBEq, List.reduceReplicate, con21_f, con21_c, con30_f, con30_c, con63_f, con63_c, g1, g2, g3, n0', n2', Int.toNat_natCast]; first | (with_reducible refine A.h ?_) | (with_reducible refine B.h ?_) | refine And.intro (fun hc => A.h ?_) (fun hc => B.h ?_))
                | simp only [thenQ_n, thenQ_r, thenQ_e, blockQ_n, blockQ_r, blockQ_e, scopeQ_n, scopeQ_r, scopeQ_e, Nat.reduceEqDiff, reduceIte]
                | (with_reducible refine And.intro ?_ ?_)
                | with_reducible intro vr)
              all_goals try (intros; (try simp only [Bool.and_eq_true, Bool.or_eq_true, Bool.not_eq_true', decide_eq_true_eq, decide_eq_false_iff_not, beq_iff_eq, bne_iff_ne, ne_eq, inI64, List.length_append] at *) <;> omega)
              refine end_ret rfl ?_
              simp only [fin, go_sem, Int.cast_ofNat_Int, Nat.reduceEqDiff, reduceIte, Nat.reduceAdd, Nat.reduceMul, Nat.reduceLeDiff, Nat.reduceSub, Nat.reduceLT, Nat.zero_lt_succ, Int.reduceToNat, Int.reduceAdd, Int.reduceSub, Int.reduceMul, Int.reduceNeg, Int.reduceLT, Int.reduceLE, Int.reduceEq, Int.reduceBEq, Int.reduceBNe, Nat.reduceBEq, List.reduceReplicate]
              exact nilAe_le
            · have n2' : decide (n ≥ d) = false := decide_eq_false n2
              rw [if_neg (by omega)] at hF
              have hst := at_step hk hk' (show 0 ≤ n by omega) (show n < d by omega)
              rw [hnx] at hb1
              generalize prI (f.take i) * d = pd at hb1 hst hnx
              repeat' (first
                | with_reducible refine t_seq fun K => ?_
                | with_reducible refine t_block ?_
                | with_reducible refine t_scope ?_
                | with_reducible refine t_label ?_
                | with_reducible refine t_skip ?_
                | with_reducible refine t_exit ?_
                | with_reducible refine t_ret ?_
                | with_reducible refine t_k ?_
                | (with_reducible refine t_gF ?_)
                | ((first | with_reducible refine t_kE ?_ | with_reducible refine t_kD ?_ | with_reducible refine t_gS ?_ | with_reducible refine t_kL ?_ | (with_reducible refine t_kLE ?_ ?_; rotate_left) | with_reducible refine t_region fun K => ?_ | with_reducible refine t_drawE (id := 16) (fun i => i == 0) [(0, true), (1, true), (2, true), (3, true), (4, true), (5, true), (6, true), (7, true), (8, true), (9, true), (10, true), (11, true), (12, true), (13, true), (14, false), (15, true), (16, true), (17, false), (18, true)] (by kernel_rfl) fun K => ?_ | with_reducible refine t_draw (by kernel_rfl) fun K => ?_); simp only [go_sem, Int.cast_ofNat_Int, Nat.reduceEqDiff, reduceIte, Nat.reduceAdd, Nat.reduceMul, Nat.reduceLeDiff, Nat.reduceSub, Nat.reduceLT, Nat.zero_lt_succ, Int.reduceToNat, Int.reduceAdd, Int.reduceSub, Int.reduceMul, Int.reduceNeg, Int.reduceLT, Int.reduceLE, Int.reduceEq, Int.reduceBEq, Int.reduceBNe, Nat.reduceBEq, List.reduceReplicate, con21_f, con21_c, con30_f, con30_c, con63_f, con63_c, g1, g2, g3, n0', n2', Int.toNat_natCast])
                | (with_reducible exact kp_nil)
                | (with_reducible exact Kp.refl _)
                | (with_reducible exact kp_to)
                | (with_reducible refine kp_cons ?_)
                | (with_reducible refine kp_arr ?_)
                | (with_reducible refine kp_app ?_)
                | ((with_reducible refine kp_skip ?_ ?_); rfl)
                | ((with_reducible refine t_cond fun A B => ?_); simp only [go_sem, Int.cast_ofNat_Int, Nat.reduceEqDiff, reduceIte, Nat.reduceAdd, Nat.reduceMul, Nat.reduceLeDiff, Nat.reduceSub, Nat.reduceLT, Nat.zero_lt_succ, Int.reduceToNat, Int.reduceAdd, Int.reduceSub, Int.reduceMul, Int.reduceNeg, Int.reduceLT, Int.reduceLE, Int.reduceEq, Int.reduceBEq, Int.reduceBNe, Nat.reduceBEq, List.reduceReplicate, con21_f, con21_c, con30_f, con30_c, con63_f, con63_c, g1, g2, g3, n0', n2', Int.toNat_natCast]; first | (with_reducible refine A.h ?_) | (with_reducible refine B.h ?_) | refine And.intro (fun hc => A.h ?_) (fun hc => B.h ?_))
                | simp only [thenQ_n, thenQ_r, thenQ_e, blockQ_n, blockQ_r, blockQ_e, scopeQ_n, scopeQ_r, scopeQ_e, Nat.reduceEqDiff, reduceIte]
                | (with_reducible refine And.intro ?_ ?_)
                | with_reducible intro vr)
              all_goals try (intros; (try simp only [Bool.and_eq_true, Bool.or_eq_true, Bool.not_eq_true', decide_eq_true_eq, decide_eq_false_iff_not, beq_iff_eq, bne_iff_ne, ne_eq, inI64, List.length_append] at *) <;> omega)
              refine ⟨⟨i + 1, k * d + n, by omega, by omega, by omega, htp (by omega), hF⟩, by simp only; omega, ?_⟩
              (refine Le.frame ?_; repeat' (first | exact leF_top _ | (with_reducible refine leF_sl ?_ ?_) | (refine leF_upd (LeR.of_eq ?_) ?_))) <;> (try (simp only [go_sem, Int.cast_ofNat_Int, Nat.reduceEqDiff, reduceIte, Nat.reduceAdd, Nat.reduceMul, Nat.reduceLeDiff, Nat.reduceSub, Nat.reduceLT, Nat.zero_lt_succ, Int.reduceToNat, Int.reduceAdd, Int.reduceSub, Int.reduceMul, Int.reduceNeg, Int.reduceLT, Int.reduceLE, Int.reduceEq, Int.reduceBEq, Int.reduceBNe, Nat.reduceBEq, List.reduceReplicate]; try rfl))
        · have g1 : decide ((i : Int) < (own.length : Int)) = false := decide_eq_false (by omega)
          rw [List.drop_eq_nil_of_le hc, List.drop_eq_nil_of_le (by omega), atS] at hF
          · subst hF
            rw [List.take_of_length_le (by omega)] at hk' hp
            obtain ⟨hcs, hc0, hkc, hkl, hxl, hO⟩ := cell_ok h0 hd hp hk hk'
            replace hO := ofS_ok hO
            have hq : (a.x.take (k * prI c + prI c).toNat).drop (k * prI c).toNat = (a.x.drop (k * prI c).toNat).take (prI c).toNat := by
              rw [List.drop_take]; congr 1; omega
            simp only
            repeat' (first
              | with_reducible refine t_seq fun K => ?_
              | with_reducible refine t_block ?_
              | with_reducible refine t_scope ?_
              | with_reducible refine t_label ?_
              | with_reducible refine t_skip ?_
              | with_reducible refine t_exit ?_
              | with_reducible refine t_ret ?_
              | with_reducible refine t_k ?_
              | (with_reducible refine t_gF ?_)
              | ((first | with_reducible refine t_kE ?_ | with_reducible refine t_kD ?_ | with_reducible refine t_gS ?_ | with_reducible refine t_kL ?_ | (with_reducible refine t_kLE ?_ ?_; rotate_left) | with_reducible refine t_region fun K => ?_ | with_reducible refine t_drawE (id := 16) (fun i => i == 0) [(0, true), (1, true), (2, true), (3, true), (4, true), (5, true), (6, true), (7, true), (8, true), (9, true), (10, true), (11, true), (12, true), (13, true), (14, false), (15, true), (16, true), (17, false), (18, true)] (by kernel_rfl) fun K => ?_ | with_reducible refine t_draw (by kernel_rfl) fun K => ?_); simp only [go_sem, Int.cast_ofNat_Int, Nat.reduceEqDiff, reduceIte, Nat.reduceAdd, Nat.reduceMul, Nat.reduceLeDiff, Nat.reduceSub, Nat.reduceLT, Nat.zero_lt_succ, Int.reduceToNat, Int.reduceAdd, Int.reduceSub, Int.reduceMul, Int.reduceNeg, Int.reduceLT, Int.reduceLE, Int.reduceEq, Int.reduceBEq, Int.reduceBNe, Nat.reduceBEq, List.reduceReplicate, con21_f, con21_c, con30_f, con30_c, con63_f, con63_c, arrV_def, arrOf_agg, slK_sl, hS, spV_def, szV_def, aeV_def, g1, hcs, hq, hO, List.length_take, List.length_drop])
              | (with_reducible exact kp_nil)
              | (with_reducible exact Kp.refl _)
              | (with_reducible exact kp_to)
              | (with_reducible refine kp_cons ?_)
              | (with_reducible refine kp_arr ?_)
              | (with_reducible refine kp_app ?_)
              | ((with_reducible refine kp_skip ?_ ?_); rfl)
              | ((with_reducible refine t_cond fun A B => ?_); simp only [go_sem, Int.cast_ofNat_Int, Nat.reduceEqDiff, reduceIte, Nat.reduceAdd, Nat.reduceMul, Nat.reduceLeDiff, Nat.reduceSub, Nat.reduceLT, Nat.zero_lt_succ, Int.reduceToNat, Int.reduceAdd, Int.reduceSub, Int.reduceMul, Int.reduceNeg, Int.reduceLT, Int.reduceLE, Int.reduceEq, Int.reduceBEq, Int.reduceBNe, Nat.reduceBEq, List.reduceReplicate, con21_f, con21_c, con30_f, con30_c, con63_f, con63_c, arrV_def, arrOf_agg, slK_sl, hS, spV_def, szV_def, aeV_def, g1, hcs, hq, hO, List.length_take, List.length_drop]; first | (with_reducible refine A.h ?_) | (with_reducible refine B.h ?_) | refine And.intro (fun hc => A.h ?_) (fun hc => B.h ?_))
              | simp only [thenQ_n, thenQ_r, thenQ_e, blockQ_n, blockQ_r, blockQ_e, scopeQ_n, scopeQ_r, scopeQ_e, Nat.reduceEqDiff, reduceIte]
              | (with_reducible refine And.intro ?_ ?_)
              | with_reducible intro vr)
            all_goals try (intros; (try simp only [Bool.and_eq_true, Bool.or_eq_true, Bool.not_eq_true', decide_eq_true_eq, decide_eq_false_iff_not, beq_iff_eq, bne_iff_ne, ne_eq, inI64, List.length_append] at *) <;> omega)
            all_goals try exact trivial
            refine end_ret rfl ?_
            simp only [fin, go_sem, Int.cast_ofNat_Int, Nat.reduceEqDiff, reduceIte, Nat.reduceAdd, Nat.reduceMul, Nat.reduceLeDiff, Nat.reduceSub, Nat.reduceLT, Nat.zero_lt_succ, Int.reduceToNat, Int.reduceAdd, Int.reduceSub, Int.reduceMul, Int.reduceNeg, Int.reduceLT, Int.reduceLE, Int.reduceEq, Int.reduceBEq, Int.reduceBNe, Nat.reduceBEq, List.reduceReplicate]
            exact LeA.refl _
          · intro _ _ _ _ h; cases h
    · have n1 : ((own.length : Int) != (f.length : Int)) = true := by rw [bne_iff_ne]; omega
      rw [if_pos hn]
      refine pc_of E20_ok mixed (fun _ => [0, 1, 2, 3, 6, 7, 8, 9, 10, 11, 12, 13, 22, 29, 34, 52, 71]) Try.func23 rfl (by kernel_rfl) (Nat.le_of_ble_eq_true rfl) ?_
      simp only [initF_cons, initF_nil, Nat.reduceAdd]
      refine t_name fun KF => ?_
      unfold E20
      repeat' (first
        | with_reducible refine t_seq fun K => ?_
        | with_reducible refine t_block ?_
        | with_reducible refine t_scope ?_
        | with_reducible refine t_label ?_
        | with_reducible refine t_skip ?_
        | with_reducible refine t_exit ?_
        | with_reducible refine t_ret ?_
        | with_reducible refine t_k ?_
        | (with_reducible refine t_gF ?_)
        | ((first | with_reducible refine t_kE ?_ | with_reducible refine t_kD ?_ | with_reducible refine t_gS ?_ | with_reducible refine t_kL ?_ | (with_reducible refine t_kLE ?_ ?_; rotate_left) | with_reducible refine t_region fun K => ?_ | with_reducible refine t_drawE (id := 16) (fun i => i == 0) [(0, true), (1, true), (2, true), (3, true), (4, true), (5, true), (6, true), (7, true), (8, true), (9, true), (10, true), (11, true), (12, true), (13, true), (14, false), (15, true), (16, true), (17, false), (18, true)] (by kernel_rfl) fun K => ?_ | with_reducible refine t_draw (by kernel_rfl) fun K => ?_); simp only [go_sem, Int.cast_ofNat_Int, Nat.reduceEqDiff, reduceIte, Nat.reduceAdd, Nat.reduceMul, Nat.reduceLeDiff, Nat.reduceSub, Nat.reduceLT, Nat.zero_lt_succ, Int.reduceToNat, Int.reduceAdd, Int.reduceSub, Int.reduceMul, Int.reduceNeg, Int.reduceLT, Int.reduceLE, Int.reduceEq, Int.reduceBEq, Int.reduceBNe, Nat.reduceBEq, List.reduceReplicate, con21_f, con21_c, con30_f, con30_c, con63_f, con63_c, arrV_def, arrOf_agg, slK_sl, hS, spV_def, szV_def, aeV_def, n1, bne_self_eq_false])
        | (with_reducible exact kp_nil)
        | (with_reducible exact Kp.refl _)
        | (with_reducible exact kp_to)
        | (with_reducible refine kp_cons ?_)
        | (with_reducible refine kp_arr ?_)
        | (with_reducible refine kp_app ?_)
        | ((with_reducible refine kp_skip ?_ ?_); rfl)
        | ((with_reducible refine t_cond fun A B => ?_); simp only [go_sem, Int.cast_ofNat_Int, Nat.reduceEqDiff, reduceIte, Nat.reduceAdd, Nat.reduceMul, Nat.reduceLeDiff, Nat.reduceSub, Nat.reduceLT, Nat.zero_lt_succ, Int.reduceToNat, Int.reduceAdd, Int.reduceSub, Int.reduceMul, Int.reduceNeg, Int.reduceLT, Int.reduceLE, Int.reduceEq, Int.reduceBEq, Int.reduceBNe, Nat.reduceBEq, List.reduceReplicate, con21_f, con21_c, con30_f, con30_c, con63_f, con63_c, arrV_def, arrOf_agg, slK_sl, hS, spV_def, szV_def, aeV_def, n1, bne_self_eq_false]; first | (with_reducible refine A.h ?_) | (with_reducible refine B.h ?_) | refine And.intro (fun hc => A.h ?_) (fun hc => B.h ?_))
        | simp only [thenQ_n, thenQ_r, thenQ_e, blockQ_n, blockQ_r, blockQ_e, scopeQ_n, scopeQ_r, scopeQ_e, Nat.reduceEqDiff, reduceIte]
        | (with_reducible refine And.intro ?_ ?_)
        | with_reducible intro vr)
      all_goals try (intros; (try simp only [Bool.and_eq_true, Bool.or_eq_true, Bool.not_eq_true', decide_eq_true_eq, decide_eq_false_iff_not, beq_iff_eq, bne_iff_ne, ne_eq, inI64, List.length_append] at *) <;> omega)
      all_goals try exact ha
      all_goals try exact hr
      refine end_ret rfl ?_
      simp only [fin, go_sem, Int.cast_ofNat_Int, Nat.reduceEqDiff, reduceIte, Nat.reduceAdd, Nat.reduceMul, Nat.reduceLeDiff, Nat.reduceSub, Nat.reduceLT, Nat.zero_lt_succ, Int.reduceToNat, Int.reduceAdd, Int.reduceSub, Int.reduceMul, Int.reduceNeg, Int.reduceLT, Int.reduceLE, Int.reduceEq, Int.reduceBEq, Int.reduceBNe, Nat.reduceBEq, List.reduceReplicate]
      exact nilAe_le
  · have e1 : (er != 0) = true := by rw [bne_iff_ne]; exact e0
    rw [if_pos (by simpa using e0)]
    refine pc_of E20_ok mixed (fun _ => [0, 1, 2, 3, 6, 7, 8, 9, 10, 11, 12, 13, 22, 29, 34, 52, 71]) Try.func23 rfl (by kernel_rfl) (Nat.le_of_ble_eq_true rfl) ?_
    simp only [initF_cons, initF_nil, Nat.reduceAdd]
    refine t_name fun KF => ?_
    unfold E20
    repeat' (first
      | with_reducible refine t_seq fun K => ?_
      | with_reducible refine t_block ?_
      | with_reducible refine t_scope ?_
      | with_reducible refine t_label ?_
      | with_reducible refine t_skip ?_
      | with_reducible refine t_exit ?_
      | with_reducible refine t_ret ?_
      | with_reducible refine t_k ?_
      | (with_reducible refine t_gF ?_)
      | ((first | with_reducible refine t_kE ?_ | with_reducible refine t_kD ?_ | with_reducible refine t_gS ?_ | with_reducible refine t_kL ?_ | (with_reducible refine t_kLE ?_ ?_; rotate_left) | with_reducible refine t_region fun K => ?_ | with_reducible refine t_drawE (id := 16) (fun i => i == 0) [(0, true), (1, true), (2, true), (3, true), (4, true), (5, true), (6, true), (7, true), (8, true), (9, true), (10, true), (11, true), (12, true), (13, true), (14, false), (15, true), (16, true), (17, false), (18, true)] (by kernel_rfl) fun K => ?_ | with_reducible refine t_draw (by kernel_rfl) fun K => ?_); simp only [go_sem, Int.cast_ofNat_Int, Nat.reduceEqDiff, reduceIte, Nat.reduceAdd, Nat.reduceMul, Nat.reduceLeDiff, Nat.reduceSub, Nat.reduceLT, Nat.zero_lt_succ, Int.reduceToNat, Int.reduceAdd, Int.reduceSub, Int.reduceMul, Int.reduceNeg, Int.reduceLT, Int.reduceLE, Int.reduceEq, Int.reduceBEq, Int.reduceBNe, Nat.reduceBEq, List.reduceReplicate, con21_f, con21_c, con30_f, con30_c, con63_f, con63_c, arrV_def, arrOf_agg, slK_sl, hS, spV_def, szV_def, aeV_def, e1])
      | (with_reducible exact kp_nil)
      | (with_reducible exact Kp.refl _)
      | (with_reducible exact kp_to)
      | (with_reducible refine kp_cons ?_)
      | (with_reducible refine kp_arr ?_)
      | (with_reducible refine kp_app ?_)
      | ((with_reducible refine kp_skip ?_ ?_); rfl)
      | ((with_reducible refine t_cond fun A B => ?_); simp only [go_sem, Int.cast_ofNat_Int, Nat.reduceEqDiff, reduceIte, Nat.reduceAdd, Nat.reduceMul, Nat.reduceLeDiff, Nat.reduceSub, Nat.reduceLT, Nat.zero_lt_succ, Int.reduceToNat, Int.reduceAdd, Int.reduceSub, Int.reduceMul, Int.reduceNeg, Int.reduceLT, Int.reduceLE, Int.reduceEq, Int.reduceBEq, Int.reduceBNe, Nat.reduceBEq, List.reduceReplicate, con21_f, con21_c, con30_f, con30_c, con63_f, con63_c, arrV_def, arrOf_agg, slK_sl, hS, spV_def, szV_def, aeV_def, e1]; first | (with_reducible refine A.h ?_) | (with_reducible refine B.h ?_) | refine And.intro (fun hc => A.h ?_) (fun hc => B.h ?_))
      | simp only [thenQ_n, thenQ_r, thenQ_e, blockQ_n, blockQ_r, blockQ_e, scopeQ_n, scopeQ_r, scopeQ_e, Nat.reduceEqDiff, reduceIte]
      | (with_reducible refine And.intro ?_ ?_)
      | with_reducible intro vr)
    all_goals try (intros; (try simp only [Bool.and_eq_true, Bool.or_eq_true, Bool.not_eq_true', decide_eq_true_eq, decide_eq_false_iff_not, beq_iff_eq, bne_iff_ne, ne_eq, inI64, List.length_append] at *) <;> omega)
    all_goals try exact ha
    all_goals try exact hr
    refine end_ret rfl ?_
    simp only [fin, go_sem, Int.cast_ofNat_Int, Nat.reduceEqDiff, reduceIte, Nat.reduceAdd, Nat.reduceMul, Nat.reduceLeDiff, Nat.reduceSub, Nat.reduceLT, Nat.zero_lt_succ, Int.reduceToNat, Int.reduceAdd, Int.reduceSub, Int.reduceMul, Int.reduceNeg, Int.reduceLT, Int.reduceLE, Int.reduceEq, Int.reduceBEq, Int.reduceBNe, Nat.reduceBEq, List.reduceReplicate]
    exact nilAe_le
noncomputable def con23 : PCon Try.prog where
  f := 23
  c := fun
    | [xa, .lit (.int .i64 r), xown] => match arrOf xa, slK .i64 xown with | some a, some own => some (okA a ∧ inI64 r ∧ own.length ≤ 1000000, aeV (cellS a r own)) | _, _ => none
    | _ => none
  ok := by
    intro args p r hc hp
    split at hc
    · split at hc
      · rename_i ha hown
        cases hc
        exact PC.weak ((fun hp : _ ∧ _ ∧ _ => rcell_pc hp.1 hp.2.1 hp.2.2) hp) ⟨arrOf_le ha, LeA.refl _, slK_le hown, trivial⟩
      · cases hc
    · cases hc
  fk := fk23
theorem con23_f : con23.f = 23 := rfl
theorem con23_c {xa : AV} {r : Int} {xown : AV} : con23.c [xa, .lit (.int .i64 r), xown] = match arrOf xa, slK .i64 xown with | some a, some own => some (okA a ∧ inI64 r ∧ own.length ≤ 1000000, aeV (cellS a r own)) | _, _ => none := rfl
end Go.Proofs.Ytjlcbojpiieafaa
