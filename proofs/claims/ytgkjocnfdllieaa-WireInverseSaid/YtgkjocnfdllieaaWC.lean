/- The examples, and the law of the order. -/
import Derived.Test.YtgkjocnfdllieaaWB
import Derived.Test.YtgkjocnfdllieaaWA
import Derived.Test.YtgkjocnfdllieaaFwB

set_option linter.all false

namespace Go.Proofs.Ytgkjocnfdllieaa
open Go Go.Fw

noncomputable def sizeCon : PCon Try.prog where
  f := 16
  c := fun
    | [.lit (.int .i64 n)] => some (inI64 n, .lit (.int .i64 ((enc n).length : Int)))
    | _ => none
  ok := by
    intro args p r hc hp
    split at hc
    · cases hc; exact size_pc hp
    · cases hc
  fk := fk16
theorem sizeCon_f : sizeCon.f = 16 := rfl
theorem sizeCon_c {n : Int} : sizeCon.c [.lit (.int .i64 n)] = some (inI64 n, .lit (.int .i64 ((enc n).length : Int))) := rfl
theorem eqS_refl (b : ByteArray) : eqS b b = true := by simp [eqS]
noncomputable def E13 : Env := envOf (P := Try.prog) zer (fun _ => false) (fun d => d == 24 || d == 28) [con12, con13, sizeCon] [srcintCon, endCon]
theorem E13_ok : EnvOk Try.prog E13 := envOk zer_ok
set_option maxHeartbeats 4000000 in
theorem awake_pc : PC Try.prog 10 [] (.lit (.bool true)) := by
  have e1 : enc 5 = [133] := by decide
  have e2 : enc 120 = [248, 0] := by decide
  have e3 : enc 400 = [249, 1, 24] := by decide
  have e4 : enc (-121) = [7, 255] := by decide
  have e5 : numS [249, 1, 24] 0 0 500 2 = (400, [], 0) := by decide
  have e6 : okL [249, 1, 24] := ⟨by decide, by decide⟩
  refine pc_of E13_ok mixed (fun _ => [0, 1]) Try.func10 rfl (by kernel_rfl) (Nat.le_of_ble_eq_true rfl) ?_
  simp only [initF_cons, initF_nil, Nat.reduceAdd]
  refine t_name fun KF => ?_
  unfold E13
  repeat' (first
    | with_reducible refine t_seq fun K => ?_
    | with_reducible refine t_block ?_
    | with_reducible refine t_scope ?_
    | with_reducible refine t_label ?_
    | with_reducible refine t_skip ?_
    | with_reducible refine t_exit ?_
    | with_reducible refine t_ret ?_
    | with_reducible refine t_k ?_
    | (with_reducible refine t_gF ?_)
    | ((first | with_reducible refine t_kE ?_ | with_reducible refine t_kD ?_ | with_reducible refine t_gS ?_ | with_reducible refine t_kL ?_ | (with_reducible refine t_kLE ?_ ?_; rotate_left) | with_reducible refine t_region fun K => ?_ | with_reducible refine t_draw (by kernel_rfl) fun K => ?_); simp only [go_sem, Int.cast_ofNat_Int, Nat.reduceEqDiff, reduceIte, Nat.reduceAdd, Nat.reduceMul, Nat.reduceLeDiff, Nat.reduceSub, Nat.reduceLT, Nat.zero_lt_succ, Int.reduceToNat, Int.reduceAdd, Int.reduceSub, Int.reduceMul, Int.reduceNeg, Int.reduceLT, Int.reduceLE, Int.reduceEq, Int.reduceBEq, Int.reduceBNe, Nat.reduceBEq, List.reduceReplicate, con12_f, con12_c, con13_f, con13_c, sizeCon_f, sizeCon_c, srcintCon_f, srcintCon_c, endCon_f, endCon_c, srcAt, e1, e2, e3, e4, e5, e6, eqS_refl, src])
    | (with_reducible exact kp_nil)
    | (with_reducible exact Kp.refl _)
    | (with_reducible exact kp_to)
    | (with_reducible refine kp_cons ?_)
    | (with_reducible refine kp_arr ?_)
    | (with_reducible refine kp_app ?_)
    | ((with_reducible refine t_cond fun A B => ?_); simp only [go_sem, Int.cast_ofNat_Int, Nat.reduceEqDiff, reduceIte, Nat.reduceAdd, Nat.reduceMul, Nat.reduceLeDiff, Nat.reduceSub, Nat.reduceLT, Nat.zero_lt_succ, Int.reduceToNat, Int.reduceAdd, Int.reduceSub, Int.reduceMul, Int.reduceNeg, Int.reduceLT, Int.reduceLE, Int.reduceEq, Int.reduceBEq, Int.reduceBNe, Nat.reduceBEq, List.reduceReplicate, con12_f, con12_c, con13_f, con13_c, sizeCon_f, sizeCon_c, srcintCon_f, srcintCon_c, endCon_f, endCon_c, srcAt, e1, e2, e3, e4, e5, e6, eqS_refl, src]; first | (with_reducible refine A.h ?_) | (with_reducible refine B.h ?_) | refine And.intro (fun hc => A.h ?_) (fun hc => B.h ?_))
    | simp only [thenQ_n, thenQ_r, thenQ_e, blockQ_n, blockQ_r, blockQ_e, scopeQ_n, scopeQ_r, scopeQ_e, Nat.reduceEqDiff, reduceIte]
    | (with_reducible refine And.intro ?_ ?_)
    | with_reducible intro vr)
  all_goals try (intros; (try simp only [Bool.and_eq_true, Bool.or_eq_true, Bool.not_eq_true', decide_eq_true_eq, decide_eq_false_iff_not, beq_iff_eq, bne_iff_ne, ne_eq, inI64, List.length_append] at *) <;> omega)
  refine end_ret rfl ?_
  simp only [fin, go_sem, Int.cast_ofNat_Int, Nat.reduceEqDiff, reduceIte, Nat.reduceAdd, Nat.reduceMul, Nat.reduceLeDiff, Nat.reduceSub, Nat.reduceLT, Nat.zero_lt_succ, Int.reduceToNat, Int.reduceAdd, Int.reduceSub, Int.reduceMul, Int.reduceNeg, Int.reduceLT, Int.reduceLE, Int.reduceEq, Int.reduceBEq, Int.reduceBNe, Nat.reduceBEq, List.reduceReplicate]
  exact LeA.refl _
noncomputable def awakeCon : PCon Try.prog where
  f := 10
  c := fun
    | [] => some (True, .lit (.bool true))
    | _ => none
  ok := by
    intro args p r hc hp
    split at hc
    · cases hc; exact awake_pc
    · cases hc
  fk := fk10
theorem awakeCon_f : awakeCon.f = 10 := rfl
theorem awakeCon_c : awakeCon.c [] = some (True, .lit (.bool true)) := rfl
noncomputable def E14 : Env := envOf (P := Try.prog) zer (fun _ => false) (fun _ => false) [awakeCon, con13] []
theorem E14_ok : EnvOk Try.prog E14 := envOk zer_ok
set_option maxHeartbeats 1000000 in
theorem order_pc {a b : Int} (ha : inI64 a) (hb : inI64 b) : PC Try.prog 4 [.lit (.int .i64 a), .lit (.int .i64 b)] (.lit (.bool true)) := by
  refine pc_of E14_ok mixed (fun _ => [0, 1, 4, 5, 6, 7, 9, 18]) Try.func4 rfl (by kernel_rfl) (Nat.le_of_ble_eq_true rfl) ?_
  simp only [initF_cons, initF_nil, Nat.reduceAdd]
  refine t_name fun KF => ?_
  unfold E14
  repeat' (first
    | with_reducible refine t_seq fun K => ?_
    | with_reducible refine t_block ?_
    | with_reducible refine t_scope ?_
    | with_reducible refine t_label ?_
    | with_reducible refine t_skip ?_
    | with_reducible refine t_exit ?_
    | with_reducible refine t_ret ?_
    | with_reducible refine t_k ?_
    | (with_reducible refine t_gF ?_)
    | ((first | with_reducible refine t_kE ?_ | with_reducible refine t_kD ?_ | with_reducible refine t_gS ?_ | with_reducible refine t_kL ?_ | (with_reducible refine t_kLE ?_ ?_; rotate_left) | with_reducible refine t_region fun K => ?_ | with_reducible refine t_draw (by kernel_rfl) fun K => ?_); simp only [go_sem, Int.cast_ofNat_Int, Nat.reduceEqDiff, reduceIte, Nat.reduceAdd, Nat.reduceMul, Nat.reduceLeDiff, Nat.reduceSub, Nat.reduceLT, Nat.zero_lt_succ, Int.reduceToNat, Int.reduceAdd, Int.reduceSub, Int.reduceMul, Int.reduceNeg, Int.reduceLT, Int.reduceLE, Int.reduceEq, Int.reduceBEq, Int.reduceBNe, Nat.reduceBEq, List.reduceReplicate, awakeCon_f, awakeCon_c, con13_f, con13_c])
    | (with_reducible exact kp_nil)
    | (with_reducible exact Kp.refl _)
    | (with_reducible exact kp_to)
    | (with_reducible refine kp_cons ?_)
    | (with_reducible refine kp_arr ?_)
    | (with_reducible refine kp_app ?_)
    | ((with_reducible refine t_cond fun A B => ?_); simp only [go_sem, Int.cast_ofNat_Int, Nat.reduceEqDiff, reduceIte, Nat.reduceAdd, Nat.reduceMul, Nat.reduceLeDiff, Nat.reduceSub, Nat.reduceLT, Nat.zero_lt_succ, Int.reduceToNat, Int.reduceAdd, Int.reduceSub, Int.reduceMul, Int.reduceNeg, Int.reduceLT, Int.reduceLE, Int.reduceEq, Int.reduceBEq, Int.reduceBNe, Nat.reduceBEq, List.reduceReplicate, awakeCon_f, awakeCon_c, con13_f, con13_c]; first | (with_reducible refine A.h ?_) | (with_reducible refine B.h ?_) | refine And.intro (fun hc => A.h ?_) (fun hc => B.h ?_))
    | simp only [thenQ_n, thenQ_r, thenQ_e, blockQ_n, blockQ_r, blockQ_e, scopeQ_n, scopeQ_r, scopeQ_e, Nat.reduceEqDiff, reduceIte]
    | (with_reducible refine And.intro ?_ ?_)
    | with_reducible intro vr)
  all_goals try (intros; (try simp only [Bool.and_eq_true, Bool.or_eq_true, Bool.not_eq_true', decide_eq_true_eq, decide_eq_false_iff_not, beq_iff_eq, bne_iff_ne, ne_eq, inI64, List.length_append] at *) <;> omega)
  · simp only [beq_iff_eq] at hc
    subst hc
    have he : eqS (bytesOf (enc a)) { data := #[] } = false := by
      unfold eqS
      rw [bytesOf_list]
      have := enc_len a
      cases he : enc a with
      | nil => rw [he] at this; simp at this
      | cons x l => simp
    refine end_ret rfl ?_
    simp only [fin, go_sem, Int.cast_ofNat_Int, Nat.reduceEqDiff, reduceIte, Nat.reduceAdd, Nat.reduceMul, Nat.reduceLeDiff, Nat.reduceSub, Nat.reduceLT, Nat.zero_lt_succ, Int.reduceToNat, Int.reduceAdd, Int.reduceSub, Int.reduceMul, Int.reduceNeg, Int.reduceLT, Int.reduceLE, Int.reduceEq, Int.reduceBEq, Int.reduceBNe, Nat.reduceBEq, List.reduceReplicate, eqS_refl, he]
    exact LeA.refl _
  all_goals simp only [bytesOf_size]
  · unfold minI; split <;> omega
  · unfold minI; split <;> omega
  · unfold minI; split <;> omega
  · unfold minI; split <;> omega
  · simp only [beq_eq_false_iff_ne, ne_eq] at hc
    have hm : (minI ((enc a).length : Int) ((enc b).length : Int)).toNat = min (enc a).length (enc b).length := by unfold minI; split <;> omega
    have hba := enc_mem a
    have hbb := enc_mem b
    rcases Int.lt_or_lt_of_ne hc with h | h
    · have hd := dlt_str hba hbb (enc_dlt ha hb h)
      have h2 := (hd.2.2 (min (enc a).length (enc b).length) (by omega)).1
      have h1 : decide (a < b) = true := by simpa using h
      refine end_ret rfl ?_
      simp only [fin, go_sem, Int.cast_ofNat_Int, Nat.reduceEqDiff, reduceIte, Nat.reduceAdd, Nat.reduceMul, Nat.reduceLeDiff, Nat.reduceSub, Nat.reduceLT, Nat.zero_lt_succ, Int.reduceToNat, Int.reduceAdd, Int.reduceSub, Int.reduceMul, Int.reduceNeg, Int.reduceLT, Int.reduceLE, Int.reduceEq, Int.reduceBEq, Int.reduceBNe, Nat.reduceBEq, List.reduceReplicate, hm, hd.1, h1, h2]
      exact LeA.refl _
    · have hd := dlt_str hbb hba (enc_dlt hb ha h)
      have h2 := (hd.2.2 (min (enc a).length (enc b).length) (by omega)).2
      have h1 : decide (a < b) = false := by simp; omega
      refine end_ret rfl ?_
      simp only [fin, go_sem, Int.cast_ofNat_Int, Nat.reduceEqDiff, reduceIte, Nat.reduceAdd, Nat.reduceMul, Nat.reduceLeDiff, Nat.reduceSub, Nat.reduceLT, Nat.zero_lt_succ, Int.reduceToNat, Int.reduceAdd, Int.reduceSub, Int.reduceMul, Int.reduceNeg, Int.reduceLT, Int.reduceLE, Int.reduceEq, Int.reduceBEq, Int.reduceBNe, Nat.reduceBEq, List.reduceReplicate, hm, hd.2.1, h1, h2]
      exact LeA.refl _
end Go.Proofs.Ytgkjocnfdllieaa

/- Reading and encoding are inverse: plain. -/
namespace Go.Proofs.Ytgkjocnfdllieaa
open Go Go.Fw

theorem valOf_from (xs : List Int) : ∀ a : Int, xs.foldl (fun m x => m * 256 + x) a = a * 256 ^ xs.length + valOf xs := by
  induction xs with
  | nil => intro a; simp [valOf]
  | cons x t ih =>
    intro a
    have h1 := ih (a * 256 + x)
    have h2 := ih (0 * 256 + x)
    simp only [valOf, List.foldl_cons, List.length_cons, Int.pow_succ] at *
    rw [h1, h2, Int.add_mul, Int.zero_mul, Int.zero_add, Int.mul_assoc, Int.mul_comm 256]
    omega
theorem valOf_cons (x : Int) (t : List Int) : valOf (x :: t) = x * 256 ^ t.length + valOf t := by
  show List.foldl _ (0 * 256 + x) t = _
  rw [valOf_from, Int.zero_mul, Int.zero_add]
theorem be_valOf (xs : List Int) (h : byt xs) : be xs.length (valOf xs) = xs := by
  revert h
  refine snocInd (p := fun xs => byt xs → be xs.length (valOf xs) = xs) ?_ ?_ _ xs rfl
  · intro _; rfl
  · intro xs x ih h
    have h1 := ih fun y hy => h y (by simp [hy])
    have h2 := h x (by simp)
    rw [valOf_snoc, List.length_append, List.length_singleton]
    show be xs.length _ ++ [_] = _
    rw [show (valOf xs * 256 + x) / 256 = valOf xs by omega, show (valOf xs * 256 + x) % 256 = x by omega, h1]
theorem valOf_be (k : Nat) : ∀ {m : Int}, 0 ≤ m → m < 256 ^ k → valOf (be k m) = m := by
  induction k with
  | zero => intro m h1 h2; simp at h2; simp [be, valOf]; omega
  | succ k ih =>
    intro m h1 h2
    rw [Int.pow_succ] at h2
    rw [be, valOf_snoc, ih (by omega) (by omega)]
    omega
theorem wid_eq {k : Nat} {m : Int} (h1 : 1 ≤ k) (h8 : k ≤ 8) (h : 256 ^ (k - 1) ≤ m ∨ k = 1) (h2 : m < 256 ^ k) : wid m = k := by
  have : k = 1 ∨ k = 2 ∨ k = 3 ∨ k = 4 ∨ k = 5 ∨ k = 6 ∨ k = 7 ∨ k = 8 := by omega
  unfold wid
  rcases this with rfl | rfl | rfl | rfl | rfl | rfl | rfl | rfl <;> simp at h h2 <;> (repeat' split) <;> omega
theorem wid_lo {m : Int} (h : wid m > 1) : 256 ^ (wid m - 1) ≤ m := by
  revert h
  unfold wid
  (repeat' split) <;> intro h <;> simp at h ⊢ <;> omega
theorem chg66 : chg 66 = id := funext fun _ => if_pos rfl
theorem map_chg67 {l : List Int} (h : byt l) : l.map (chg 67) = l.map fun c => 255 - c := by
  refine List.map_congr_left fun c hc => ?_
  have := h c hc
  simp only [chg, wrap_u8]
  rw [if_neg (by decide)]; omega
theorem byt_turn {l : List Int} (h : byt l) : byt (l.map fun c => 255 - c) := by
  intro x hx
  obtain ⟨y, hy, rfl⟩ := List.mem_map.1 hx
  have := h y hy
  omega
theorem turn_turn (l : List Int) : (l.map fun c => 255 - c).map (fun c => 255 - c) = l := by
  rw [List.map_map]
  conv => rhs; rw [← List.map_id l]
  refine List.map_congr_left fun c _ => ?_
  show 255 - (255 - c) = c
  omega
/-- What k bytes without a leading zero hold. -/
theorem val_wid {xs : List Int} {k : Nat} (h : byt xs) (hl : xs.length = k) (h1 : 1 ≤ k) (h8 : k ≤ 8) (h0 : ¬ (xs.head? = some 0 ∧ k > 1)) : wid (valOf xs) = k := by
  refine wid_eq h1 h8 ?_ (by have := (valOf_bd xs h).2; rwa [hl] at this)
  cases xs with
  | nil => simp at hl; omega
  | cons x t =>
    by_cases hk : k = 1
    · exact .inr hk
    · left
      have hx := h x (by simp)
      have hx0 : x ≠ 0 := fun e => h0 ⟨by rw [e]; rfl, by omega⟩
      have := (valOf_bd t fun y hy => h y (by simp [hy])).1
      have e : t.length = k - 1 := by simp at hl; omega
      rw [valOf_cons, e]
      have hp : (0 : Int) < 256 ^ (k - 1) := Int.pow_pos (by decide)
      have : (1 : Int) * 256 ^ (k - 1) ≤ x * 256 ^ (k - 1) := Int.mul_le_mul_of_nonneg_right (by omega) (by omega)
      omega
theorem dec_enc {l r : List Int} {n : Int} (hb : byt l) (h : dec l = some (n, r)) : inI64 n ∧ l = enc n ++ r := by
  cases l with
  | nil => cases h
  | cons c t =>
    have hc := hb c (by simp)
    have ht : byt t := fun x hx => hb x (by simp [hx])
    rw [dec] at h
    by_cases h1 : c ≥ 248
    · rw [if_pos h1] at h
      unfold decB at h
      split at h
      · cases h
      · rename_i hl
        split at h
        · cases h
        · rename_i h0
          split at h
          · rename_i hm
            rw [chg66, List.map_id] at h h0 hm
            rw [if_neg (by decide)] at h
            cases h
            have hbt : byt (t.take (c - 247).toNat) := fun x hx => ht x (List.mem_of_mem_take hx)
            have hlen : (t.take (c - 247).toNat).length = (c - 247).toNat := by rw [List.length_take]; omega
            have hw := val_wid hbt hlen (by omega) (by omega) h0
            have hv := valOf_bd _ hbt
            refine ⟨by unfold inI64; omega, ?_⟩
            unfold enc
            rw [if_pos (by omega), show valOf (t.take (c - 247).toNat) + 120 - 120 = valOf (t.take (c - 247).toNat) by omega, hw]
            have hbe := be_valOf _ hbt
            rw [hlen] at hbe
            rw [hbe, List.cons_append, List.take_append_drop]
            congr 1; omega
          · cases h
    · rw [if_neg h1] at h
      by_cases h2 : c ≤ 7
      · rw [if_pos h2] at h
        unfold decB at h
        split at h
        · cases h
        · rename_i hl
          split at h
          · cases h
          · rename_i h0
            split at h
            · rename_i hm
              have hbt : byt (t.take (8 - c).toNat) := fun x hx => ht x (List.mem_of_mem_take hx)
              rw [map_chg67 hbt] at h h0 hm
              rw [if_pos rfl] at h
              cases h
              have hlen : ((t.take (8 - c).toNat).map fun c => 255 - c).length = (8 - c).toNat := by rw [List.length_map, List.length_take]; omega
              have hw := val_wid (byt_turn hbt) hlen (by omega) (by omega) h0
              have hv := valOf_bd _ (byt_turn hbt)
              refine ⟨by unfold inI64; omega, ?_⟩
              unfold enc
              rw [if_neg (by omega), if_pos (by omega), show -(-121 - valOf ((t.take (8 - c).toNat).map fun c => 255 - c) + 121) = valOf ((t.take (8 - c).toNat).map fun c => 255 - c) by omega, hw]
              have hbe := be_valOf _ (byt_turn hbt)
              rw [hlen] at hbe
              rw [hbe, turn_turn, List.cons_append, List.take_append_drop]
              congr 1; omega
            · cases h
      · rw [if_neg h2] at h
        cases h
        refine ⟨by unfold inI64; omega, ?_⟩
        unfold enc
        rw [if_neg (by omega), if_neg (by omega), show c - 128 + 128 = c by omega]
        rfl
theorem enc_byt (n : Int) : byt (enc n) := enc_mem n
theorem be_head {k : Nat} {m : Int} (h0 : 0 ≤ m) (h : m < 256 ^ k) (hk : k > 1) (hlo : 256 ^ (k - 1) ≤ m) : (be k m).head? ≠ some 0 := by
  intro e
  have hb : byt (be k m) := fun x hx => be_mem _ _ x hx
  have hl := be_length k m
  have hv := valOf_be k h0 h
  cases hx : be k m with
  | nil => rw [hx] at hl; simp at hl; omega
  | cons x t =>
    rw [hx] at e hl hv hb
    simp only [List.head?_cons, Option.some.injEq] at e
    subst e
    rw [valOf_cons, Int.zero_mul, Int.zero_add] at hv
    have := (valOf_bd t fun y hy => hb y (by simp [hy])).2
    have e : t.length = k - 1 := by simp at hl; omega
    rw [e] at this
    omega
theorem decB_of {f : FuncId} {k : Nat} {ys r : List Int} {m : Int} (hy : ys.map (chg f) = be k m) (h0 : 0 ≤ m) (h : m < 256 ^ k) (hlo : k > 1 → 256 ^ (k - 1) ≤ m) (hm : m ≤ 9223372036854775687) :
    decB f k (ys ++ r) = some (if f = 67 then -121 - m else m + 120, r) := by
  have hl : ys.length = k := by have := congrArg List.length hy; rwa [List.length_map, be_length] at this
  unfold decB
  rw [if_neg (by simp; omega), List.take_append_of_le_length (by omega), List.take_of_length_le (by omega), hy, valOf_be k h0 h, if_neg (fun e => be_head h0 h e.2 (hlo e.2) e.1), if_pos hm,
    List.drop_append_of_le_length (by omega), List.drop_of_length_le (by omega), List.nil_append]
theorem enc_dec {n : Int} (hn : inI64 n) (r : List Int) : dec (enc n ++ r) = some (n, r) := by
  unfold inI64 at hn
  unfold enc
  by_cases h1 : n ≥ 120
  · rw [if_pos h1]
    have hw := wid_bd (n - 120)
    rw [List.cons_append, dec, if_pos (by omega), show (247 + (wid (n - 120) : Int) - 247).toNat = wid (n - 120) by omega,
      decB_of (m := n - 120) (by rw [chg66, List.map_id]) (by omega) (wid_pow (by omega)) wid_lo (by omega), if_neg (by decide), show n - 120 + 120 = n by omega]
  · rw [if_neg h1]
    by_cases h2 : n < -120
    · rw [if_pos h2]
      have hw := wid_bd (-(n + 121))
      have hb : byt (be (wid (-(n + 121))) (-(n + 121))) := fun x hx => be_mem _ _ x hx
      rw [List.cons_append, dec, if_neg (by omega), if_pos (by omega), show (8 - (8 - (wid (-(n + 121)) : Int))).toNat = wid (-(n + 121)) by omega,
        decB_of (m := -(n + 121)) (by rw [map_chg67 (byt_turn hb), turn_turn]) (by omega) (wid_pow (by omega)) wid_lo (by omega), if_pos rfl, show -121 - -(n + 121) = n by omega]
    · rw [if_neg h2, List.cons_append, List.nil_append, dec, if_neg (by omega), if_neg (by omega), show n + 128 - 128 = n by omega]
end Go.Proofs.Ytgkjocnfdllieaa

/- Bytes that are read as an integer begin with its encoding: the walk. -/
namespace Go.Proofs.Ytgkjocnfdllieaa
open Go Go.Fw

/-- wire.Int, its result still to be written. -/
theorem int_ec {σ : List AObj} {x : AV} {l : List Int} {n : Int} (hx : slK .u8 x = some l) (hn : inI64 n) (hl : l.length ≤ 900000) {k : AV → List AObj → Prop}
    (hk : ∀ ver', k (.arr σ.length ver') (σ ++ [.arr 5 1 (ints .u8 (l ++ enc n)) ver' false])) : EC Try.prog 13 [x, .lit (.int .i64 n)] σ k := by
  refine EC.weak (bs := [.sl false 1 (ints .u8 l), .lit (.int .i64 n)]) ?_ (LeRL.cons (slK_leR hx) (LeRL.cons (LeR.refl _) LeRL.nil))
  refine ec_of E4_ok mixed (fun _ => [0, 1, 4]) Try.func13 rfl (by kernel_rfl) (Nat.le_of_ble_eq_true rfl) ?_
  simp only [initF_cons, initF_nil, Nat.reduceAdd]
  refine t_name fun KF => ?_
  unfold E4
  repeat' (first
    | with_reducible refine t_seq fun K => ?_
    | with_reducible refine t_block ?_
    | with_reducible refine t_scope ?_
    | with_reducible refine t_label ?_
    | with_reducible refine t_skip ?_
    | with_reducible refine t_exit ?_
    | with_reducible refine t_ret ?_
    | with_reducible refine t_k ?_
    | (with_reducible refine t_gF ?_)
    | ((first | with_reducible refine t_kE ?_ | with_reducible refine t_kD ?_ | with_reducible refine t_gS ?_ | with_reducible refine t_kL ?_ | (with_reducible refine t_kLE ?_ ?_; rotate_left) | with_reducible refine t_region fun K => ?_ | with_reducible refine t_draw (by kernel_rfl) fun K => ?_); simp only [go_sem, Int.cast_ofNat_Int, Nat.reduceEqDiff, reduceIte, Nat.reduceAdd, Nat.reduceMul, Nat.reduceLeDiff, Nat.reduceSub, Nat.reduceLT, Nat.zero_lt_succ, Int.reduceToNat, Int.reduceAdd, Int.reduceSub, Int.reduceMul, Int.reduceNeg, Int.reduceLT, Int.reduceLE, Int.reduceEq, Int.reduceBEq, Int.reduceBNe, Nat.reduceBEq, List.reduceReplicate, copiedCon_f, copiedCon_c, putCon_f, putCon_a, getA0 rfl, set_app])
    | (with_reducible exact kp_nil)
    | (with_reducible exact Kp.refl _)
    | (with_reducible exact kp_to)
    | (with_reducible refine kp_cons ?_)
    | (with_reducible refine kp_arr ?_)
    | (with_reducible refine kp_app ?_)
    | ((with_reducible refine t_cond fun A B => ?_); simp only [go_sem, Int.cast_ofNat_Int, Nat.reduceEqDiff, reduceIte, Nat.reduceAdd, Nat.reduceMul, Nat.reduceLeDiff, Nat.reduceSub, Nat.reduceLT, Nat.zero_lt_succ, Int.reduceToNat, Int.reduceAdd, Int.reduceSub, Int.reduceMul, Int.reduceNeg, Int.reduceLT, Int.reduceLE, Int.reduceEq, Int.reduceBEq, Int.reduceBNe, Nat.reduceBEq, List.reduceReplicate, copiedCon_f, copiedCon_c, putCon_f, putCon_a, getA0 rfl, set_app]; first | (with_reducible refine A.h ?_) | (with_reducible refine B.h ?_) | refine And.intro (fun hc => A.h ?_) (fun hc => B.h ?_))
    | simp only [thenQ_n, thenQ_r, thenQ_e, blockQ_n, blockQ_r, blockQ_e, scopeQ_n, scopeQ_r, scopeQ_e, Nat.reduceEqDiff, reduceIte]
    | (with_reducible refine And.intro ?_ ?_)
    | with_reducible intro vr)
  all_goals try (intros; (try simp only [Bool.and_eq_true, Bool.or_eq_true, Bool.not_eq_true', decide_eq_true_eq, decide_eq_false_iff_not, beq_iff_eq, bne_iff_ne, ne_eq, inI64, List.length_append] at *) <;> omega)
  refine end_ret rfl ?_
  simp only [go_sem, Int.cast_ofNat_Int, Nat.reduceEqDiff, reduceIte, Nat.reduceAdd, Nat.reduceMul, Nat.reduceLeDiff, Nat.reduceSub, Nat.reduceLT, Nat.zero_lt_succ, Int.reduceToNat, Int.reduceAdd, Int.reduceSub, Int.reduceMul, Int.reduceNeg, Int.reduceLT, Int.reduceLE, Int.reduceEq, Int.reduceBEq, Int.reduceBNe, Nat.reduceBEq, List.reduceReplicate]
  exact hk _
noncomputable def intE : ECon Try.prog where
  f := 13
  c := fun args σ k => match args with
    | [x, .lit (.int .i64 n)] => match slK .u8 x with
      | some l => (inI64 n ∧ l.length ≤ 900000) ∧ ∀ ver', k (.arr σ.length ver') (σ ++ [.arr 5 1 (ints .u8 (l ++ enc n)) ver' false])
      | none => False
    | _ => False
  ok := by
    intro args σ k h
    split at h
    · split at h
      · rename_i hx
        exact int_ec hx h.1.1 h.1.2 h.2
      · exact h.elim
    · exact h.elim
  fk := fk13
theorem intE_f : intE.f = 13 := rfl
theorem intE_c {σ : List AObj} {k : AV → List AObj → Prop} {x : AV} {n : Int} : intE.c [x, .lit (.int .i64 n)] σ k = match slK .u8 x with
      | some l => (inI64 n ∧ l.length ≤ 900000) ∧ ∀ ver', k (.arr σ.length ver') (σ ++ [.arr 5 1 (ints .u8 (l ++ enc n)) ver' false])
      | none => False := rfl

noncomputable def E15 : Env := envOf (P := Try.prog) zer (fun _ => false) (fun _ => false) [awakeCon, con12] [srcintCon, intE]
theorem E15_ok : EnvOk Try.prog E15 := envOk zer_ok
set_option maxHeartbeats 1000000 in
theorem canonical_pc {l : List Int} (hb : byt l) : PC Try.prog 3 [.sl false 1 (ints .u8 l)] (.lit (.bool true)) := by
  by_cases hl : l.length > 40
  · have h1 : decide ((l.length : Int) > 40) = true := by simp; omega
    refine pc_of E15_ok mixed (fun _ => [0, 2, 3, 4, 6, 9, 17]) Try.func3 rfl (by kernel_rfl) (Nat.le_of_ble_eq_true rfl) ?_
    simp only [initF_cons, initF_nil, Nat.reduceAdd]
    refine t_name fun KF => ?_
    unfold E15
    repeat' (first
      | with_reducible refine t_seq fun K => ?_
      | with_reducible refine t_block ?_
      | with_reducible refine t_scope ?_
      | with_reducible refine t_label ?_
      | with_reducible refine t_skip ?_
      | with_reducible refine t_exit ?_
      | with_reducible refine t_ret ?_
      | with_reducible refine t_k ?_
      | (with_reducible refine t_gF ?_)
      | ((first | with_reducible refine t_kE ?_ | with_reducible refine t_kD ?_ | with_reducible refine t_gS ?_ | with_reducible refine t_kL ?_ | (with_reducible refine t_kLE ?_ ?_; rotate_left) | with_reducible refine t_region fun K => ?_ | with_reducible refine t_drawE (id := 9) (fun _ => true) [(0, true), (2, true), (3, true), (5, true), (1, false), (4, false), (6, false), (7, true)] (by kernel_rfl) fun K => ?_ | with_reducible refine t_draw (by kernel_rfl) fun K => ?_); simp only [go_sem, Int.cast_ofNat_Int, Nat.reduceEqDiff, reduceIte, Nat.reduceAdd, Nat.reduceMul, Nat.reduceLeDiff, Nat.reduceSub, Nat.reduceLT, Nat.zero_lt_succ, Int.reduceToNat, Int.reduceAdd, Int.reduceSub, Int.reduceMul, Int.reduceNeg, Int.reduceLT, Int.reduceLE, Int.reduceEq, Int.reduceBEq, Int.reduceBNe, Nat.reduceBEq, List.reduceReplicate, awakeCon_f, awakeCon_c, h1])
      | (with_reducible exact kp_nil)
      | (with_reducible exact Kp.refl _)
      | (with_reducible exact kp_to)
      | (with_reducible refine kp_cons ?_)
      | (with_reducible refine kp_arr ?_)
      | (with_reducible refine kp_app ?_)
      | ((with_reducible refine t_cond fun A B => ?_); simp only [go_sem, Int.cast_ofNat_Int, Nat.reduceEqDiff, reduceIte, Nat.reduceAdd, Nat.reduceMul, Nat.reduceLeDiff, Nat.reduceSub, Nat.reduceLT, Nat.zero_lt_succ, Int.reduceToNat, Int.reduceAdd, Int.reduceSub, Int.reduceMul, Int.reduceNeg, Int.reduceLT, Int.reduceLE, Int.reduceEq, Int.reduceBEq, Int.reduceBNe, Nat.reduceBEq, List.reduceReplicate, awakeCon_f, awakeCon_c, h1]; first | (with_reducible refine A.h ?_) | (with_reducible refine B.h ?_) | refine And.intro (fun hc => A.h ?_) (fun hc => B.h ?_))
      | simp only [thenQ_n, thenQ_r, thenQ_e, blockQ_n, blockQ_r, blockQ_e, scopeQ_n, scopeQ_r, scopeQ_e, Nat.reduceEqDiff, reduceIte]
      | (with_reducible refine And.intro ?_ ?_)
      | with_reducible intro vr)
    refine end_ret rfl ?_
    simp only [fin, go_sem, Int.cast_ofNat_Int, Nat.reduceEqDiff, reduceIte, Nat.reduceAdd, Nat.reduceMul, Nat.reduceLeDiff, Nat.reduceSub, Nat.reduceLT, Nat.zero_lt_succ, Int.reduceToNat, Int.reduceAdd, Int.reduceSub, Int.reduceMul, Int.reduceNeg, Int.reduceLT, Int.reduceLE, Int.reduceEq, Int.reduceBEq, Int.reduceBNe, Nat.reduceBEq, List.reduceReplicate]
    exact LeA.refl _
  · have h1 : decide ((l.length : Int) > 40) = false := by simp; omega
    have hok : okL l := ⟨by omega, hb⟩
    cases hd : dec l with
    | none =>
      have hs : numS l 0 (-9223372036854775808) 9223372036854775807 2 = (0, l, 4) := by simp [numS, hd]
      refine pc_of E15_ok mixed (fun _ => [0, 2, 3, 4, 6, 9, 17]) Try.func3 rfl (by kernel_rfl) (Nat.le_of_ble_eq_true rfl) ?_
      simp only [initF_cons, initF_nil, Nat.reduceAdd]
      refine t_name fun KF => ?_
      unfold E15
      repeat' (first
        | with_reducible refine t_seq fun K => ?_
        | with_reducible refine t_block ?_
        | with_reducible refine t_scope ?_
        | with_reducible refine t_label ?_
        | with_reducible refine t_skip ?_
        | with_reducible refine t_exit ?_
        | with_reducible refine t_ret ?_
        | with_reducible refine t_k ?_
        | (with_reducible refine t_gF ?_)
        | ((first | with_reducible refine t_kE ?_ | with_reducible refine t_kD ?_ | with_reducible refine t_gS ?_ | with_reducible refine t_kL ?_ | (with_reducible refine t_kLE ?_ ?_; rotate_left) | with_reducible refine t_region fun K => ?_ | with_reducible refine t_drawE (id := 9) (fun _ => true) [(0, true), (2, true), (3, true), (5, true), (1, false), (4, false), (6, false), (7, true)] (by kernel_rfl) fun K => ?_ | with_reducible refine t_draw (by kernel_rfl) fun K => ?_); simp only [go_sem, Int.cast_ofNat_Int, Nat.reduceEqDiff, reduceIte, Nat.reduceAdd, Nat.reduceMul, Nat.reduceLeDiff, Nat.reduceSub, Nat.reduceLT, Nat.zero_lt_succ, Int.reduceToNat, Int.reduceAdd, Int.reduceSub, Int.reduceMul, Int.reduceNeg, Int.reduceLT, Int.reduceLE, Int.reduceEq, Int.reduceBEq, Int.reduceBNe, Nat.reduceBEq, List.reduceReplicate, awakeCon_f, awakeCon_c, h1, srcintCon_f, srcintCon_c, srcAt, hok, hs, src, con12_f, con12_c, slK_sl, eqS_refl])
        | (with_reducible exact kp_nil)
        | (with_reducible exact Kp.refl _)
        | (with_reducible exact kp_to)
        | (with_reducible refine kp_cons ?_)
        | (with_reducible refine kp_arr ?_)
        | (with_reducible refine kp_app ?_)
        | ((with_reducible refine t_cond fun A B => ?_); simp only [go_sem, Int.cast_ofNat_Int, Nat.reduceEqDiff, reduceIte, Nat.reduceAdd, Nat.reduceMul, Nat.reduceLeDiff, Nat.reduceSub, Nat.reduceLT, Nat.zero_lt_succ, Int.reduceToNat, Int.reduceAdd, Int.reduceSub, Int.reduceMul, Int.reduceNeg, Int.reduceLT, Int.reduceLE, Int.reduceEq, Int.reduceBEq, Int.reduceBNe, Nat.reduceBEq, List.reduceReplicate, awakeCon_f, awakeCon_c, h1, srcintCon_f, srcintCon_c, srcAt, hok, hs, src, con12_f, con12_c, slK_sl, eqS_refl]; first | (with_reducible refine A.h ?_) | (with_reducible refine B.h ?_) | refine And.intro (fun hc => A.h ?_) (fun hc => B.h ?_))
        | simp only [thenQ_n, thenQ_r, thenQ_e, blockQ_n, blockQ_r, blockQ_e, scopeQ_n, scopeQ_r, scopeQ_e, Nat.reduceEqDiff, reduceIte]
        | (with_reducible refine And.intro ?_ ?_)
        | with_reducible intro vr)
      all_goals try (intros; (try simp only [Bool.and_eq_true, Bool.or_eq_true, Bool.not_eq_true', decide_eq_true_eq, decide_eq_false_iff_not, beq_iff_eq, bne_iff_ne, ne_eq, inI64, List.length_append] at *) <;> omega)
      refine end_ret rfl ?_
      simp only [fin, go_sem, Int.cast_ofNat_Int, Nat.reduceEqDiff, reduceIte, Nat.reduceAdd, Nat.reduceMul, Nat.reduceLeDiff, Nat.reduceSub, Nat.reduceLT, Nat.zero_lt_succ, Int.reduceToNat, Int.reduceAdd, Int.reduceSub, Int.reduceMul, Int.reduceNeg, Int.reduceLT, Int.reduceLE, Int.reduceEq, Int.reduceBEq, Int.reduceBNe, Nat.reduceBEq, List.reduceReplicate]
      exact LeA.refl _
    | some nr =>
      obtain ⟨n, r⟩ := nr
      obtain ⟨hn, he⟩ := dec_enc hb hd
      have hs : numS l 0 (-9223372036854775808) 9223372036854775807 2 = (n, r, 0) := by
        unfold inI64 at hn
        simp only [numS, hd]
        rw [if_neg (by omega), if_neg (by omega)]
      have hr : r.length ≤ 40 := by have := congrArg List.length he; simp only [List.length_append] at this; omega
      have hen := enc_len n
      have hr' : byt r := fun x hx => hb x (by rw [he]; simp [hx])
      refine pc_of E15_ok mixed (fun _ => [0, 2, 3, 4, 6, 9, 17]) Try.func3 rfl (by kernel_rfl) (Nat.le_of_ble_eq_true rfl) ?_
      simp only [initF_cons, initF_nil, Nat.reduceAdd]
      refine t_name fun KF => ?_
      unfold E15
      repeat' (first
        | with_reducible refine t_seq fun K => ?_
        | with_reducible refine t_block ?_
        | with_reducible refine t_scope ?_
        | with_reducible refine t_label ?_
        | with_reducible refine t_skip ?_
        | with_reducible refine t_exit ?_
        | with_reducible refine t_ret ?_
        | with_reducible refine t_k ?_
        | (with_reducible refine t_gF ?_)
        | ((first | with_reducible refine t_kE ?_ | with_reducible refine t_kD ?_ | with_reducible refine t_gS ?_ | with_reducible refine t_kL ?_ | (with_reducible refine t_kLE ?_ ?_; rotate_left) | with_reducible refine t_region fun K => ?_ | with_reducible refine t_drawE (id := 9) (fun _ => true) [(0, true), (2, true), (3, true), (5, true), (1, false), (4, false), (6, false), (7, true)] (by kernel_rfl) fun K => ?_ | with_reducible refine t_draw (by kernel_rfl) fun K => ?_); simp only [go_sem, Int.cast_ofNat_Int, Nat.reduceEqDiff, reduceIte, Nat.reduceAdd, Nat.reduceMul, Nat.reduceLeDiff, Nat.reduceSub, Nat.reduceLT, Nat.zero_lt_succ, Int.reduceToNat, Int.reduceAdd, Int.reduceSub, Int.reduceMul, Int.reduceNeg, Int.reduceLT, Int.reduceLE, Int.reduceEq, Int.reduceBEq, Int.reduceBNe, Nat.reduceBEq, List.reduceReplicate, awakeCon_f, awakeCon_c, h1, srcintCon_f, srcintCon_c, srcAt, hok, hs, src, con12_f, con12_c, slK_sl, slK_nil, eqS_refl, intE_f, intE_c, hn])
        | (with_reducible exact kp_nil)
        | (with_reducible exact Kp.refl _)
        | (with_reducible exact kp_to)
        | (with_reducible refine kp_cons ?_)
        | (with_reducible refine kp_arr ?_)
        | (with_reducible refine kp_app ?_)
        | ((with_reducible refine t_cond fun A B => ?_); simp only [go_sem, Int.cast_ofNat_Int, Nat.reduceEqDiff, reduceIte, Nat.reduceAdd, Nat.reduceMul, Nat.reduceLeDiff, Nat.reduceSub, Nat.reduceLT, Nat.zero_lt_succ, Int.reduceToNat, Int.reduceAdd, Int.reduceSub, Int.reduceMul, Int.reduceNeg, Int.reduceLT, Int.reduceLE, Int.reduceEq, Int.reduceBEq, Int.reduceBNe, Nat.reduceBEq, List.reduceReplicate, awakeCon_f, awakeCon_c, h1, srcintCon_f, srcintCon_c, srcAt, hok, hs, src, con12_f, con12_c, slK_sl, slK_nil, eqS_refl, intE_f, intE_c, hn]; first | (with_reducible refine A.h ?_) | (with_reducible refine B.h ?_) | refine And.intro (fun hc => A.h ?_) (fun hc => B.h ?_))
        | simp only [thenQ_n, thenQ_r, thenQ_e, blockQ_n, blockQ_r, blockQ_e, scopeQ_n, scopeQ_r, scopeQ_e, Nat.reduceEqDiff, reduceIte]
        | (with_reducible refine And.intro ?_ ?_)
        | with_reducible intro vr)
      all_goals try (intros; (try simp only [Bool.and_eq_true, Bool.or_eq_true, Bool.not_eq_true', decide_eq_true_eq, decide_eq_false_iff_not, beq_iff_eq, bne_iff_ne, ne_eq, inI64, List.length_append] at *) <;> omega)
      refine end_ret rfl ?_
      simp only [fin, go_sem, Int.cast_ofNat_Int, Nat.reduceEqDiff, reduceIte, Nat.reduceAdd, Nat.reduceMul, Nat.reduceLeDiff, Nat.reduceSub, Nat.reduceLT, Nat.zero_lt_succ, Int.reduceToNat, Int.reduceAdd, Int.reduceSub, Int.reduceMul, Int.reduceNeg, Int.reduceLT, Int.reduceLE, Int.reduceEq, Int.reduceBEq, Int.reduceBNe, Nat.reduceBEq, List.reduceReplicate, ← he, eqS_refl]
      exact LeA.refl _
theorem canonical_law : ∀ xs, ShL Try.prog Try.f3.params.toList xs → PC Try.prog 3 xs (.lit (.bool true))
  | [x], h => by
    obtain ⟨l, rfl, _, hb⟩ := shv_ints u22 u5 sz5 h.1
    exact canonical_pc fun n hn => wf_u8 (hb n hn)
  | [], h => h.elim
  | _ :: _ :: _, h => h.2.elim
end Go.Proofs.Ytgkjocnfdllieaa
