/- Reading: what the methods of a source yield, plain. -/
import Derived.Test.YtgkjocnfdllieaaWC
import Derived.Test.YtgkjocnfdllieaaWD

set_option linter.all false

namespace Go.Proofs.Ytgkjocnfdllieaa
open Go Go.Fw

/-- What a reading of a text yields. -/
def wordS (l : List Int) (e0 most : Int) : ByteArray × List Int × Int :=
  if (numS l e0 0 most 3).2.2 ≠ 0 then (⟨#[]⟩, (numS l e0 0 most 3).2)
  else if ((numS l e0 0 most 3).2.1.length : Int) < (numS l e0 0 most 3).1 then (⟨#[]⟩, (numS l e0 0 most 3).2.1, 4)
  else (bytesOf ((numS l e0 0 most 3).2.1.take (numS l e0 0 most 3).1.toNat), (numS l e0 0 most 3).2.1.drop (numS l e0 0 most 3).1.toNat, 0)
/-- One value after the other, as long as there is no error. -/
def iterS {α : Type} (one : List Int → Int → α × List Int × Int) : Nat → List α × List Int × Int → List α × List Int × Int
  | 0, s => s
  | n + 1, s => if s.2.2 = 0 then iterS one n (s.1 ++ [(one s.2.1 0).1], (one s.2.1 0).2) else s
def manyS {α : Type} (one : List Int → Int → α × List Int × Int) (l : List Int) (e0 most : Int) : List α × List Int × Int :=
  iterS one (numS l e0 0 most 3).1.toNat ([], (numS l e0 0 most 3).2)
def runS {α : Type} (z : α) (l : List Int) (e0 : Int) (x : α × List Int × Int) : α × List Int × Int :=
  if e0 ≠ 0 then (z, l, e0) else if x.2.2 ≠ 0 then (z, l, x.2.2) else x

theorem okL_suf {l s r : List Int} (h : okL l) (e : l = s ++ r) : okL r := by
  subst e
  exact ⟨by have := h.1; simp only [List.length_append] at this; omega, fun x hx => h.2 x (by simp [hx])⟩
theorem numS_ok {l : List Int} {lo hi e : Int} (h : okL l) (he : e ≠ 0) : okL (numS l 0 lo hi e).2.1 ∧
    ((numS l 0 lo hi e).2.2 = 0 → (numS l 0 lo hi e).2.1.length < l.length ∧ lo ≤ (numS l 0 lo hi e).1 ∧ (numS l 0 lo hi e).1 ≤ hi ∧ inI64 (numS l 0 lo hi e).1) ∧
    ((numS l 0 lo hi e).2.2 ≠ 0 → (numS l 0 lo hi e).1 = 0 ∧ (numS l 0 lo hi e).2.1 = l) := by
  unfold numS
  rw [if_neg (by omega)]
  cases hd : dec l with
  | none =>
    refine ⟨h, ?_, fun _ => ⟨rfl, rfl⟩⟩
    intro hx; cases hx
  | some nr =>
    obtain ⟨n, r⟩ := nr
    obtain ⟨hn, hl⟩ := dec_enc h.2 hd
    have hlen := enc_len n
    simp only
    split
    · exact ⟨h, fun hx => absurd hx he, fun _ => ⟨rfl, rfl⟩⟩
    · rename_i hc
      refine ⟨okL_suf h hl, fun _ => ⟨?_, by simp only; omega, by simp only; omega, hn⟩, fun hx => absurd rfl hx⟩
      have := congrArg List.length hl
      simp only [List.length_append] at this
      simp only; omega
/-- How a reading moves: what is left is an end of what there was, shorter if there was no error. -/
def Rd {α : Type} (one : List Int → Int → α × List Int × Int) : Prop := ∀ l, okL l → okL (one l 0).2.1 ∧ (one l 0).2.1.length ≤ l.length ∧ ((one l 0).2.2 = 0 → (one l 0).2.1.length < l.length)
theorem rd_num {lo hi e : Int} (he : e ≠ 0) : Rd fun l e0 => numS l e0 lo hi e := fun l h => by
  obtain ⟨h1, h2, h3⟩ := numS_ok (lo := lo) (hi := hi) h he
  refine ⟨h1, ?_, fun hx => (h2 hx).1⟩
  by_cases hx : (numS l 0 lo hi e).2.2 = 0
  · exact Nat.le_of_lt (h2 hx).1
  · simp only; rw [(h3 hx).2]; exact Nat.le_refl _
theorem rd_word {most : Int} : Rd fun l e0 => wordS l e0 most := fun l h => by
  obtain ⟨h1, h2, h3⟩ := numS_ok (lo := 0) (hi := most) (e := 3) h (by decide)
  have hr := rd_num (lo := 0) (hi := most) (e := 3) (by decide) l h
  simp only at hr
  simp only [wordS]
  split
  · exact ⟨h1, hr.2.1, fun hx => absurd hx (by assumption)⟩
  · rename_i hx
    have hx' : (numS l 0 0 most 3).2.2 = 0 := by simpa using hx
    split
    · exact ⟨h1, hr.2.1, fun hy => by cases hy⟩
    · have e := List.take_append_drop (numS l 0 0 most 3).1.toNat (numS l 0 0 most 3).2.1
      refine ⟨okL_suf h1 e.symm, ?_, fun _ => ?_⟩
      · simp only [List.length_drop]; have := hr.2.1; omega
      · simp only [List.length_drop]; have := (h2 hx').1; omega
theorem okL_len {l : List Int} (h : okL l) : l.length ≤ 900000 := h.1
theorem iterS_done {α : Type} {one : List Int → Int → α × List Int × Int} {n : Nat} {s : List α × List Int × Int} (h : s.2.2 ≠ 0) : iterS one n s = s := by
  cases n with
  | zero => rfl
  | succ n => simp only [iterS]; rw [if_neg h]
theorem iterS_step {α : Type} {one : List Int → Int → α × List Int × Int} {n : Nat} {out : List α} {r : List Int} : iterS one (n + 1) (out, r, 0) = iterS one n (out ++ [(one r 0).1], (one r 0).2) := by
  simp [iterS]
theorem iterS_ok {α : Type} {one : List Int → Int → α × List Int × Int} (hR : Rd one) : ∀ (n : Nat) (s : List α × List Int × Int), okL s.2.1 → okL (iterS one n s).2.1
  | 0, s, h => h
  | n + 1, s, h => by
    simp only [iterS]
    split
    · exact iterS_ok hR n _ (hR _ h).1
    · exact h
theorem manyS_ok {α : Type} {one : List Int → Int → α × List Int × Int} (hR : Rd one) {l : List Int} {most : Int} (h : okL l) : okL (manyS one l 0 most).2.1 :=
  iterS_ok hR _ _ (numS_ok h (by decide)).1
end Go.Proofs.Ytgkjocnfdllieaa

/- The methods of a source of the program: texts and lists. -/
namespace Go.Proofs.Ytgkjocnfdllieaa
open Go Go.Fw

theorem le_nil {n0 : Nat} {f : Nat → AV} {σ : List AObj} (i e sz : Nat) (h : f i = .lit (.slice none 0 0)) : Le n0 ⟨f, σ⟩ ⟨upd f i (.arr σ.length 0), σ ++ [.arr e sz [] 0 false]⟩ := by
  intro cx G w N a _ hr hf
  obtain ⟨G', h1, h2, h3⟩ := Rel.newEmpty hr e sz none
  refine ⟨G', h2, hf.size, hf.defers, fun j => ?_⟩
  have hj : R G' (f j) (a.tmps.getD j undef) := (hf.rel j).mono h1
  simp only [upd]
  split
  · rename_i e; subst e; rw [h] at hj; rw [hj.lit_inv]; exact h3
  · exact hj

noncomputable def E30 : Env := envOf (P := Try.prog) zer (fun _ => false) (fun _ => false) [] [numCon, failCon]
theorem E30_ok : EnvOk Try.prog E30 := envOk zer_ok
set_option maxHeartbeats 400000 in
theorem word_ec {σ : List AObj} {o : Nat} {l : List Int} {most : Int} (ho : σ[o]? = some (src l 0)) (hl : okL l) {k : AV → List AObj → Prop}
    (hk : k (.lit (.string (wordS l 0 most).1)) (σ.set o (src (wordS l 0 most).2.1 (wordS l 0 most).2.2))) : EC Try.prog 48 [.ref o 0, .lit (.int .i64 most)] σ k := by
  have hf : ∀ {p}, srcAt σ o p = p σ l 0 := srcAt_src ho
  obtain ⟨h1, h2, h3⟩ := numS_ok (lo := 0) (hi := most) (e := 3) hl (by decide)
  unfold wordS at hk
  generalize hN : numS l 0 0 most 3 = a at hk h1 h2 h3
  obtain ⟨n, r, e⟩ := a
  simp only at hk h1 h2 h3
  have hlen := okL_len h1
  by_cases he : e = 0
  · subst he
    obtain ⟨_, hn0, _, hn⟩ := h2 rfl
    rw [if_neg (by simp)] at hk
    have hf2 : ∀ {p}, srcAt (σ.set o (.box 26 [.sl false 1 (ints .u8 r), .lit (.int .i64 0)])) o p = p (σ.set o (src r 0)) r 0 := srcAt_src (get_set ho _)
    by_cases hc : (r.length : Int) < n
    · rw [if_pos hc] at hk
      have hc' : decide (n > (r.length : Int)) = true := decide_eq_true hc
      refine ec_of E30_ok mixed (fun _ => [0, 1, 4, 5, 6, 14, 21]) Try.func48 rfl (by kernel_rfl) (Nat.le_of_ble_eq_true rfl) ?_
      simp only [initF_cons, initF_nil, Nat.reduceAdd]
      refine t_name fun KF => ?_
      unfold E30
      repeat' (first
        | with_reducible refine t_seq fun K => ?_
        | with_reducible refine t_block ?_
        | with_reducible refine t_scope ?_
        | with_reducible refine t_label ?_
        | with_reducible refine t_skip ?_
        | with_reducible refine t_exit ?_
        | with_reducible refine t_ret ?_
        | with_reducible refine t_k ?_
        | (with_reducible refine t_gF ?_)
        | ((first | with_reducible refine t_kE ?_ | with_reducible refine t_kD ?_ | with_reducible refine t_gS ?_ | with_reducible refine t_kL ?_ | (with_reducible refine t_kLE ?_ ?_; rotate_left) | with_reducible refine t_region fun K => ?_ | with_reducible refine t_draw (by kernel_rfl) fun K => ?_); simp only [go_sem, Int.cast_ofNat_Int, Nat.reduceEqDiff, reduceIte, Nat.reduceAdd, Nat.reduceMul, Nat.reduceLeDiff, Nat.reduceSub, Nat.reduceLT, Nat.zero_lt_succ, Int.reduceToNat, Int.reduceAdd, Int.reduceSub, Int.reduceMul, Int.reduceNeg, Int.reduceLT, Int.reduceLE, Int.reduceEq, Int.reduceBEq, Int.reduceBNe, Nat.reduceBEq, List.reduceReplicate, numCon_f, numCon_c, hf, hl, hN, get_set ho, src, hc', failCon_f, failCon_c, hf2])
        | (with_reducible exact kp_nil)
        | (with_reducible exact Kp.refl _)
        | (with_reducible exact kp_to)
        | (with_reducible refine kp_cons ?_)
        | (with_reducible refine kp_arr ?_)
        | (with_reducible refine kp_app ?_)
        | ((with_reducible refine t_cond fun A B => ?_); simp only [go_sem, Int.cast_ofNat_Int, Nat.reduceEqDiff, reduceIte, Nat.reduceAdd, Nat.reduceMul, Nat.reduceLeDiff, Nat.reduceSub, Nat.reduceLT, Nat.zero_lt_succ, Int.reduceToNat, Int.reduceAdd, Int.reduceSub, Int.reduceMul, Int.reduceNeg, Int.reduceLT, Int.reduceLE, Int.reduceEq, Int.reduceBEq, Int.reduceBNe, Nat.reduceBEq, List.reduceReplicate, numCon_f, numCon_c, hf, hl, hN, get_set ho, src, hc', failCon_f, failCon_c, hf2]; first | (with_reducible refine A.h ?_) | (with_reducible refine B.h ?_) | refine And.intro (fun hc => A.h ?_) (fun hc => B.h ?_))
        | simp only [thenQ_n, thenQ_r, thenQ_e, blockQ_n, blockQ_r, blockQ_e, scopeQ_n, scopeQ_r, scopeQ_e, Nat.reduceEqDiff, reduceIte]
        | (with_reducible refine And.intro ?_ ?_)
        | with_reducible intro vr)
      exact end_ret rfl hk
    · rw [if_neg hc] at hk
      have hc' : decide (n > (r.length : Int)) = false := decide_eq_false hc
      refine ec_of E30_ok mixed (fun _ => [0, 1, 4, 5, 6, 14, 21]) Try.func48 rfl (by kernel_rfl) (Nat.le_of_ble_eq_true rfl) ?_
      simp only [initF_cons, initF_nil, Nat.reduceAdd]
      refine t_name fun KF => ?_
      unfold E30
      repeat' (first
        | with_reducible refine t_seq fun K => ?_
        | with_reducible refine t_block ?_
        | with_reducible refine t_scope ?_
        | with_reducible refine t_label ?_
        | with_reducible refine t_skip ?_
        | with_reducible refine t_exit ?_
        | with_reducible refine t_ret ?_
        | with_reducible refine t_k ?_
        | (with_reducible refine t_gF ?_)
        | ((first | with_reducible refine t_kE ?_ | with_reducible refine t_kD ?_ | with_reducible refine t_gS ?_ | with_reducible refine t_kL ?_ | (with_reducible refine t_kLE ?_ ?_; rotate_left) | with_reducible refine t_region fun K => ?_ | with_reducible refine t_draw (by kernel_rfl) fun K => ?_); simp only [go_sem, Int.cast_ofNat_Int, Nat.reduceEqDiff, reduceIte, Nat.reduceAdd, Nat.reduceMul, Nat.reduceLeDiff, Nat.reduceSub, Nat.reduceLT, Nat.zero_lt_succ, Int.reduceToNat, Int.reduceAdd, Int.reduceSub, Int.reduceMul, Int.reduceNeg, Int.reduceLT, Int.reduceLE, Int.reduceEq, Int.reduceBEq, Int.reduceBNe, Nat.reduceBEq, List.reduceReplicate, numCon_f, numCon_c, hf, hl, hN, get_set ho, src, hc', failCon_f, List.take_length])
        | (with_reducible exact kp_nil)
        | (with_reducible exact Kp.refl _)
        | (with_reducible exact kp_to)
        | (with_reducible refine kp_cons ?_)
        | (with_reducible refine kp_arr ?_)
        | (with_reducible refine kp_app ?_)
        | ((with_reducible refine t_cond fun A B => ?_); simp only [go_sem, Int.cast_ofNat_Int, Nat.reduceEqDiff, reduceIte, Nat.reduceAdd, Nat.reduceMul, Nat.reduceLeDiff, Nat.reduceSub, Nat.reduceLT, Nat.zero_lt_succ, Int.reduceToNat, Int.reduceAdd, Int.reduceSub, Int.reduceMul, Int.reduceNeg, Int.reduceLT, Int.reduceLE, Int.reduceEq, Int.reduceBEq, Int.reduceBNe, Nat.reduceBEq, List.reduceReplicate, numCon_f, numCon_c, hf, hl, hN, get_set ho, src, hc', failCon_f, List.take_length]; first | (with_reducible refine A.h ?_) | (with_reducible refine B.h ?_) | refine And.intro (fun hc => A.h ?_) (fun hc => B.h ?_))
        | simp only [thenQ_n, thenQ_r, thenQ_e, blockQ_n, blockQ_r, blockQ_e, scopeQ_n, scopeQ_r, scopeQ_e, Nat.reduceEqDiff, reduceIte]
        | (with_reducible refine And.intro ?_ ?_)
        | with_reducible intro vr)
      all_goals try (intros; (try simp only [Bool.and_eq_true, Bool.or_eq_true, Bool.not_eq_true', decide_eq_true_eq, decide_eq_false_iff_not, beq_iff_eq, bne_iff_ne, ne_eq, inI64, List.length_append] at *) <;> omega)
      exact end_ret rfl hk
  · rw [if_pos he] at hk
    obtain ⟨rfl, rfl⟩ := h3 he
    have hz : (e != 0) = true := by simpa using he
    refine ec_of E30_ok mixed (fun _ => [0, 1, 4, 5, 6, 14, 21]) Try.func48 rfl (by kernel_rfl) (Nat.le_of_ble_eq_true rfl) ?_
    simp only [initF_cons, initF_nil, Nat.reduceAdd]
    refine t_name fun KF => ?_
    unfold E30
    repeat' (first
      | with_reducible refine t_seq fun K => ?_
      | with_reducible refine t_block ?_
      | with_reducible refine t_scope ?_
      | with_reducible refine t_label ?_
      | with_reducible refine t_skip ?_
      | with_reducible refine t_exit ?_
      | with_reducible refine t_ret ?_
      | with_reducible refine t_k ?_
      | (with_reducible refine t_gF ?_)
      | ((first | with_reducible refine t_kE ?_ | with_reducible refine t_kD ?_ | with_reducible refine t_gS ?_ | with_reducible refine t_kL ?_ | (with_reducible refine t_kLE ?_ ?_; rotate_left) | with_reducible refine t_region fun K => ?_ | with_reducible refine t_draw (by kernel_rfl) fun K => ?_); simp only [go_sem, Int.cast_ofNat_Int, Nat.reduceEqDiff, reduceIte, Nat.reduceAdd, Nat.reduceMul, Nat.reduceLeDiff, Nat.reduceSub, Nat.reduceLT, Nat.zero_lt_succ, Int.reduceToNat, Int.reduceAdd, Int.reduceSub, Int.reduceMul, Int.reduceNeg, Int.reduceLT, Int.reduceLE, Int.reduceEq, Int.reduceBEq, Int.reduceBNe, Nat.reduceBEq, List.reduceReplicate, numCon_f, numCon_c, hf, hl, hN, get_set ho, src, hz])
      | (with_reducible exact kp_nil)
      | (with_reducible exact Kp.refl _)
      | (with_reducible exact kp_to)
      | (with_reducible refine kp_cons ?_)
      | (with_reducible refine kp_arr ?_)
      | (with_reducible refine kp_app ?_)
      | ((with_reducible refine t_cond fun A B => ?_); simp only [go_sem, Int.cast_ofNat_Int, Nat.reduceEqDiff, reduceIte, Nat.reduceAdd, Nat.reduceMul, Nat.reduceLeDiff, Nat.reduceSub, Nat.reduceLT, Nat.zero_lt_succ, Int.reduceToNat, Int.reduceAdd, Int.reduceSub, Int.reduceMul, Int.reduceNeg, Int.reduceLT, Int.reduceLE, Int.reduceEq, Int.reduceBEq, Int.reduceBNe, Nat.reduceBEq, List.reduceReplicate, numCon_f, numCon_c, hf, hl, hN, get_set ho, src, hz]; first | (with_reducible refine A.h ?_) | (with_reducible refine B.h ?_) | refine And.intro (fun hc => A.h ?_) (fun hc => B.h ?_))
      | simp only [thenQ_n, thenQ_r, thenQ_e, blockQ_n, blockQ_r, blockQ_e, scopeQ_n, scopeQ_r, scopeQ_e, Nat.reduceEqDiff, reduceIte]
      | (with_reducible refine And.intro ?_ ?_)
      | with_reducible intro vr)
    exact end_ret rfl hk
noncomputable def wordCon : ECon Try.prog where
  f := 48
  c := fun args σ k => match args with
    | [.ref o 0, .lit (.int .i64 most)] => srcAt σ o fun σ' l e0 => (e0 = 0 ∧ okL l) ∧ k (.lit (.string (wordS l 0 most).1)) (σ'.set o (src (wordS l 0 most).2.1 (wordS l 0 most).2.2))
    | _ => False
  ok := by
    intro args σ k h
    split at h
    · obtain ⟨σ', l, e0, h1, h2, ⟨rfl, h3⟩, h4⟩ := srcAt_inv h
      exact EC.clB h1 (word_ec h2 h3 h4)
    · exact h.elim
  fk := fk48
theorem wordCon_f : wordCon.f = 48 := rfl
theorem wordCon_c {σ : List AObj} {k : AV → List AObj → Prop} {o : Nat} {most : Int} : wordCon.c [.ref o 0, .lit (.int .i64 most)] σ k =
  srcAt σ o fun σ' l e0 => (e0 = 0 ∧ okL l) ∧ k (.lit (.string (wordS l 0 most).1)) (σ'.set o (src (wordS l 0 most).2.1 (wordS l 0 most).2.2)) := rfl
noncomputable def E31 : Env := envOf (P := Try.prog) zer (fun _ => false) (fun _ => false) [] [numCon, wordCon]
theorem E31_ok : EnvOk Try.prog E31 := envOk zer_ok
structure Lp {α : Type} (one : List Int → Int → α × List Int × Int) (n : Nat) (F : List α × List Int × Int) where
  i : Nat
  out : List α
  r : List Int
  e : Int
  ver : Nat
  hF : iterS one (n - i) (out, r, e) = F
  hr : okL r
  hi : i = out.length
  hb : out.length + r.length ≤ 900001
  hb0 : e = 0 → out.length + r.length ≤ 900000
/-- Objects behind a source that turns. -/
theorem lk_o {σ : List AObj} {o : Nat} {ob : AObj} (ho : σ[o]? = some ob) (x : AObj) (m : List AObj) : (σ.set o x ++ m)[o]? = some x := get_app_of (get_set ho x) m
theorem lk_n {σ : List AObj} {o p : Nat} {ob : AObj} (hp : σ[p]? = some ob) (hne : o ≠ p) (x : AObj) (m : List AObj) : (σ.set o x ++ m)[p]? = some ob := get_app_of (by rw [List.getElem?_set_ne hne]; exact hp) m
theorem lk_n0 {σ : List AObj} {o p : Nat} {ob : AObj} (hp : σ[p]? = some ob) (hne : o ≠ p) (x : AObj) : (σ.set o x)[p]? = some ob := by rw [List.getElem?_set_ne hne]; exact hp
theorem lk_e {σ : List AObj} {o : Nat} (x : AObj) (m : List AObj) : (σ.set o x ++ m)[σ.length]? = m[0]? := getA0 (by simp)
theorem st_e {σ : List AObj} {o : Nat} (x y : AObj) (m : List AObj) : (σ.set o x ++ m).set σ.length y = σ.set o x ++ m.set 0 y := setA0 (by simp)
theorem st_o {σ : List AObj} {o : Nat} {ob : AObj} (ho : σ[o]? = some ob) (x y : AObj) (m : List AObj) : (σ.set o x ++ m).set o y = σ.set o y ++ m := by
  rw [set_app_of (get_set ho x), List.set_set]
theorem tk_e {σ : List AObj} {o : Nat} (x : AObj) (m : List AObj) : (σ.set o x ++ m).take σ.length = σ.set o x := takeA (by simp)
theorem oneT_ec {σ : List AObj} {o bp bl : Nat} {l : List Int} {long : Int} (ho : σ[o]? = some (src l 0)) (hp : σ[bp]? = some (.box 45 [.ref o 0])) (hbl : σ[bl]? = some (.box 3 [.lit (.int .i64 long)])) (hl : okL l) {k : AV → List AObj → Prop}
    (hk : k (.lit (.string (wordS l 0 long).1)) (σ.set o (src (wordS l 0 long).2.1 (wordS l 0 long).2.2))) : EC Try.prog 47 [.ref bp 0, .ref bl 0] σ k := by
  have hf : ∀ {p}, srcAt σ o p = p σ l 0 := srcAt_src ho
  refine ec_of E31_ok mixed (fun _ => [0, 1, 2]) Try.func47 rfl (by kernel_rfl) (Nat.le_of_ble_eq_true rfl) ?_
  simp only [initF_cons, initF_nil, Nat.reduceAdd]
  refine t_name fun KF => ?_
  unfold E31
  repeat' (first
    | with_reducible refine t_seq fun K => ?_
    | with_reducible refine t_block ?_
    | with_reducible refine t_scope ?_
    | with_reducible refine t_label ?_
    | with_reducible refine t_skip ?_
    | with_reducible refine t_exit ?_
    | with_reducible refine t_ret ?_
    | with_reducible refine t_k ?_
    | (with_reducible refine t_gF ?_)
    | ((first | with_reducible refine t_kE ?_ | with_reducible refine t_kD ?_ | with_reducible refine t_gS ?_ | with_reducible refine t_kL ?_ | (with_reducible refine t_kLE ?_ ?_; rotate_left) | with_reducible refine t_region fun K => ?_ | with_reducible refine t_draw (by kernel_rfl) fun K => ?_); simp only [go_sem, Int.cast_ofNat_Int, Nat.reduceEqDiff, reduceIte, Nat.reduceAdd, Nat.reduceMul, Nat.reduceLeDiff, Nat.reduceSub, Nat.reduceLT, Nat.zero_lt_succ, Int.reduceToNat, Int.reduceAdd, Int.reduceSub, Int.reduceMul, Int.reduceNeg, Int.reduceLT, Int.reduceLE, Int.reduceEq, Int.reduceBEq, Int.reduceBNe, Nat.reduceBEq, List.reduceReplicate, hp, hbl, numCon_f, numCon_c, wordCon_f, wordCon_c, hf, hl])
    | (with_reducible exact kp_nil)
    | (with_reducible exact Kp.refl _)
    | (with_reducible exact kp_to)
    | (with_reducible refine kp_cons ?_)
    | (with_reducible refine kp_arr ?_)
    | (with_reducible refine kp_app ?_)
    | ((with_reducible refine t_cond fun A B => ?_); simp only [go_sem, Int.cast_ofNat_Int, Nat.reduceEqDiff, reduceIte, Nat.reduceAdd, Nat.reduceMul, Nat.reduceLeDiff, Nat.reduceSub, Nat.reduceLT, Nat.zero_lt_succ, Int.reduceToNat, Int.reduceAdd, Int.reduceSub, Int.reduceMul, Int.reduceNeg, Int.reduceLT, Int.reduceLE, Int.reduceEq, Int.reduceBEq, Int.reduceBNe, Nat.reduceBEq, List.reduceReplicate, hp, hbl, numCon_f, numCon_c, wordCon_f, wordCon_c, hf, hl]; first | (with_reducible refine A.h ?_) | (with_reducible refine B.h ?_) | refine And.intro (fun hc => A.h ?_) (fun hc => B.h ?_))
    | simp only [thenQ_n, thenQ_r, thenQ_e, blockQ_n, blockQ_r, blockQ_e, scopeQ_n, scopeQ_r, scopeQ_e, Nat.reduceEqDiff, reduceIte]
    | (with_reducible refine And.intro ?_ ?_)
    | with_reducible intro vr)
  exact end_ret rfl hk
noncomputable def oneTCon : ECon Try.prog where
  f := 47
  c := fun args σ k => match args with
    | [.ref bp 0, .ref bl 0] => match σ[bp]? with
      | some (.box 45 [.ref o 0]) => srcAt σ o fun σ' l e0 => match σ'[bp]?, σ'[bl]? with
        | some (.box 45 [.ref o' 0]), some (.box 3 [.lit (.int .i64 long)]) => (o' = o ∧ e0 = 0 ∧ okL l) ∧ k (.lit (.string (wordS l 0 long).1)) (σ'.set o (src (wordS l 0 long).2.1 (wordS l 0 long).2.2))
        | _, _ => False
      | _ => False
    | _ => False
  ok := by
    intro args σ k h
    split at h
    · split at h
      · obtain ⟨σ', l, e0, h1, h2, h3⟩ := srcAt_inv h
        split at h3
        · rename_i hp hbl
          obtain ⟨⟨rfl, rfl, hl⟩, h4⟩ := h3
          exact EC.clB h1 (oneT_ec h2 hp hbl hl h4)
        · exact h3.elim
      · exact h.elim
    · exact h.elim
  fk := fk47
theorem oneTCon_f : oneTCon.f = 47 := rfl
theorem oneTCon_c {σ : List AObj} {k : AV → List AObj → Prop} {bp bl : Nat} : oneTCon.c [.ref bp 0, .ref bl 0] σ k = match σ[bp]? with
      | some (.box 45 [.ref o 0]) => srcAt σ o fun σ' l e0 => match σ'[bp]?, σ'[bl]? with
        | some (.box 45 [.ref o' 0]), some (.box 3 [.lit (.int .i64 long)]) => (o' = o ∧ e0 = 0 ∧ okL l) ∧ k (.lit (.string (wordS l 0 long).1)) (σ'.set o (src (wordS l 0 long).2.1 (wordS l 0 long).2.2))
        | _, _ => False
      | _ => False := rfl
noncomputable def FT : Env := envOf (P := Try.prog) zer (fun _ => false) (fun _ => false) [] [numCon, oneTCon]
theorem FT_ok : EnvOk Try.prog FT := envOk zer_ok
set_option maxHeartbeats 1000000 in
theorem manyT_ec {σ : List AObj} {o bp bl : Nat} {l : List Int} {most long : Int} (ho : σ[o]? = some (src l 0)) (hp : σ[bp]? = some (.box 45 [.ref o 0])) (hbl : σ[bl]? = some (.box 3 [.lit (.int .i64 long)])) (hl : okL l) {k : AV → List AObj → Prop}
    (hk : k (.sl false 1 (strs (manyS (fun l e => wordS l e long) l 0 most).1)) (σ.set o (src (manyS (fun l e => wordS l e long) l 0 most).2.1 (manyS (fun l e => wordS l e long) l 0 most).2.2))) :
    EC Try.prog 46 [.ref o 0, .lit (.int .i64 most), .fn (.func 47) [] [.ref bp 0, .ref bl 0]] σ k := by
  refine ec_fin fun hbd => ?_
  have hf : ∀ {p}, srcAt σ o p = p σ l 0 := srcAt_src ho
  obtain ⟨h1, h2, h3⟩ := numS_ok (lo := 0) (hi := most) (e := 3) hl (by decide)
  have hR : Rd (fun l e => wordS l e long) := rd_word
  unfold manyS at hk
  generalize hN : numS l 0 0 most 3 = a at hk h1 h2 h3
  obtain ⟨n, r0, e0⟩ := a
  simp only at hk h1 h2 h3
  have hlen := okL_len h1
  have np : o ≠ bp := fun e => by subst e; rw [ho] at hp; cases hp
  have nbl : o ≠ bl := fun e => by subst e; rw [ho] at hbl; cases hbl
  have hsr : ∀ {r e m p}, srcAt (σ.set o (.box 26 [.sl false 1 (ints .u8 r), .lit (.int .i64 e)]) ++ m) o p = p (σ.set o (src r e) ++ m) r e := srcAt_src (lk_o ho _ _)
  have hn9 : inI64 n := by
    by_cases he : e0 = 0
    · exact (h2 he).2.2.2
    · rw [(h3 he).1]; exact ⟨by decide, by decide⟩
  unfold inI64 at hn9
  refine ec_of FT_ok mixed (fun _ => [0, 1, 2, 6, 7, 8, 9, 22]) Try.func46 rfl (by kernel_rfl) (Nat.le_of_ble_eq_true rfl) ?_
  simp only [initF_cons, initF_nil, Nat.reduceAdd]
  refine t_name fun KF => ?_
  unfold FT
  repeat' (first
    | with_reducible refine t_seq fun K => ?_
    | with_reducible refine t_block ?_
    | with_reducible refine t_scope ?_
    | with_reducible refine t_label ?_
    | with_reducible refine t_skip ?_
    | with_reducible refine t_exit ?_
    | with_reducible refine t_ret ?_
    | with_reducible refine t_k ?_
    | (with_reducible refine t_gF ?_)
    | ((first | with_reducible refine t_kE ?_ | with_reducible refine t_kD ?_ | with_reducible refine t_gS ?_ | with_reducible refine t_kL ?_ | (with_reducible refine t_kLE ?_ ?_; rotate_left) | with_reducible refine t_region fun K => ?_ | with_reducible refine t_draw (by kernel_rfl) fun K => ?_); simp only [go_sem, Int.cast_ofNat_Int, Nat.reduceEqDiff, reduceIte, Nat.reduceAdd, Nat.reduceMul, Nat.reduceLeDiff, Nat.reduceSub, Nat.reduceLT, Nat.zero_lt_succ, Int.reduceToNat, Int.reduceAdd, Int.reduceSub, Int.reduceMul, Int.reduceNeg, Int.reduceLT, Int.reduceLE, Int.reduceEq, Int.reduceBEq, Int.reduceBNe, Nat.reduceBEq, List.reduceReplicate, numCon_f, numCon_c, hf, hl, hN, src])
    | (with_reducible exact kp_nil)
    | (with_reducible exact Kp.refl _)
    | (with_reducible exact kp_to)
    | (with_reducible refine kp_cons ?_)
    | (with_reducible refine kp_arr ?_)
    | (with_reducible refine kp_app ?_)
    | ((with_reducible refine t_cond fun A B => ?_); simp only [go_sem, Int.cast_ofNat_Int, Nat.reduceEqDiff, reduceIte, Nat.reduceAdd, Nat.reduceMul, Nat.reduceLeDiff, Nat.reduceSub, Nat.reduceLT, Nat.zero_lt_succ, Int.reduceToNat, Int.reduceAdd, Int.reduceSub, Int.reduceMul, Int.reduceNeg, Int.reduceLT, Int.reduceLE, Int.reduceEq, Int.reduceBEq, Int.reduceBNe, Nat.reduceBEq, List.reduceReplicate, numCon_f, numCon_c, hf, hl, hN, src]; first | (with_reducible refine A.h ?_) | (with_reducible refine B.h ?_) | refine And.intro (fun hc => A.h ?_) (fun hc => B.h ?_))
    | simp only [thenQ_n, thenQ_r, thenQ_e, blockQ_n, blockQ_r, blockQ_e, scopeQ_n, scopeQ_r, scopeQ_e, Nat.reduceEqDiff, reduceIte]
    | (with_reducible refine And.intro ?_ ?_)
    | with_reducible intro vr)
  refine t_loop (ι := Lp (fun l e => wordS l e long) n.toNat (iterS (fun l e => wordS l e long) n.toNat ([], r0, e0))) (fun p => ⟨upd (upd (upd (upd (upd topF 9 (.lit (.int .i64 p.i))) 8 (.arr σ.length p.ver)) 7 (.lit (.int .i64 n))) 2 (.fn (.func 47) [] [.ref bp 0, .ref bl 0])) 0 (.ref o 0),
    σ.set o (src p.r p.e) ++ [.arr 9 1 (strs p.out) p.ver false]⟩) (fun p => n.toNat - p.i) ⟨0, [], r0, e0, 0, rfl, h1, rfl, by simp only [List.length_nil]; omega, fun _ => by simp only [List.length_nil]; omega⟩ ?_ ?_
  · refine (le_nil 8 9 1 rfl).trans ?_
    (refine Le.frame ?_; repeat' (first | exact leF_top _ | (with_reducible refine leF_sl ?_ ?_) | (refine leF_upd (LeR.of_eq ?_) ?_))) <;> (try (simp only [go_sem, Int.cast_ofNat_Int, Nat.reduceEqDiff, reduceIte, Nat.reduceAdd, Nat.reduceMul, Nat.reduceLeDiff, Nat.reduceSub, Nat.reduceLT, Nat.zero_lt_succ, Int.reduceToNat, Int.reduceAdd, Int.reduceSub, Int.reduceMul, Int.reduceNeg, Int.reduceLT, Int.reduceLE, Int.reduceEq, Int.reduceBEq, Int.reduceBNe, Nat.reduceBEq, List.reduceReplicate]; try rfl))
  · rintro ⟨i, out, r, e, ver, hF, hr, hil, hb, hb0⟩ K0
    have hend : decide ((i : Int) < n) = false ∨ e ≠ 0 → iterS (fun l e => wordS l e long) n.toNat ([], r0, e0) = (out, r, e) := by
      rintro (h | h)
      · rw [← hF, show n.toNat - i = 0 by rw [decide_eq_false_iff_not] at h; omega]; rfl
      · rw [← hF]; exact iterS_done h
    rcases Int.lt_or_le (i : Int) n with hc | hc
    · have g1 : decide ((i : Int) < n) = true := decide_eq_true hc
      by_cases he : e = 0
      · subst he
        have hd := hR r hr
        rw [show n.toNat - i = (n.toNat - (i + 1)) + 1 by omega, iterS_step] at hF
        simp only at hF hd
        generalize hO : wordS r 0 long = z at hF hd
        obtain ⟨x, r', e'⟩ := z
        simp only at hF hd
        have hb0 := hb0 rfl
        repeat' (first
          | with_reducible refine t_seq fun K => ?_
          | with_reducible refine t_block ?_
          | with_reducible refine t_scope ?_
          | with_reducible refine t_label ?_
          | with_reducible refine t_skip ?_
          | with_reducible refine t_exit ?_
          | with_reducible refine t_ret ?_
          | with_reducible refine t_k ?_
          | (with_reducible refine t_gF ?_)
          | ((first | with_reducible refine t_kE ?_ | with_reducible refine t_kD ?_ | with_reducible refine t_gS ?_ | with_reducible refine t_kL ?_ | (with_reducible refine t_kLE ?_ ?_; rotate_left) | with_reducible refine t_region fun K => ?_ | with_reducible refine t_draw (by kernel_rfl) fun K => ?_); simp only [go_sem, Int.cast_ofNat_Int, Nat.reduceEqDiff, reduceIte, Nat.reduceAdd, Nat.reduceMul, Nat.reduceLeDiff, Nat.reduceSub, Nat.reduceLT, Nat.zero_lt_succ, Int.reduceToNat, Int.reduceAdd, Int.reduceSub, Int.reduceMul, Int.reduceNeg, Int.reduceLT, Int.reduceLE, Int.reduceEq, Int.reduceBEq, Int.reduceBNe, Nat.reduceBEq, List.reduceReplicate, g1, lk_o ho, lk_n hp np, lk_n hbl nbl, lk_e, st_e, st_o ho, hsr, src, oneTCon_f, oneTCon_c, hr, hO, numCon_f])
          | (with_reducible exact kp_nil)
          | (with_reducible exact Kp.refl _)
          | (with_reducible exact kp_to)
          | (with_reducible refine kp_cons ?_)
          | (with_reducible refine kp_arr ?_)
          | (with_reducible refine kp_app ?_)
          | ((with_reducible refine t_cond fun A B => ?_); simp only [go_sem, Int.cast_ofNat_Int, Nat.reduceEqDiff, reduceIte, Nat.reduceAdd, Nat.reduceMul, Nat.reduceLeDiff, Nat.reduceSub, Nat.reduceLT, Nat.zero_lt_succ, Int.reduceToNat, Int.reduceAdd, Int.reduceSub, Int.reduceMul, Int.reduceNeg, Int.reduceLT, Int.reduceLE, Int.reduceEq, Int.reduceBEq, Int.reduceBNe, Nat.reduceBEq, List.reduceReplicate, g1, lk_o ho, lk_n hp np, lk_n hbl nbl, lk_e, st_e, st_o ho, hsr, src, oneTCon_f, oneTCon_c, hr, hO, numCon_f]; first | (with_reducible refine A.h ?_) | (with_reducible refine B.h ?_) | refine And.intro (fun hc => A.h ?_) (fun hc => B.h ?_))
          | simp only [thenQ_n, thenQ_r, thenQ_e, blockQ_n, blockQ_r, blockQ_e, scopeQ_n, scopeQ_r, scopeQ_e, Nat.reduceEqDiff, reduceIte]
          | (with_reducible refine And.intro ?_ ?_)
          | with_reducible intro vr)
        all_goals try (intros; (try simp only [Bool.and_eq_true, Bool.or_eq_true, Bool.not_eq_true', decide_eq_true_eq, decide_eq_false_iff_not, beq_iff_eq, bne_iff_ne, ne_eq, inI64, List.length_append] at *) <;> omega)
        refine ⟨⟨i + 1, out ++ [x], r', e', ver + 1, hF, hd.1, by simp only [List.length_append, List.length_singleton]; omega, by simp only [List.length_append, List.length_singleton]; omega, fun h => by have := hd.2.2 h; simp only [List.length_append, List.length_singleton]; omega⟩, by simp only; omega, ?_⟩
        (refine Le.frame ?_; repeat' (first | exact leF_top _ | (with_reducible refine leF_sl ?_ ?_) | (refine leF_upd (LeR.of_eq ?_) ?_))) <;> (try (simp only [go_sem, Int.cast_ofNat_Int, Nat.reduceEqDiff, reduceIte, Nat.reduceAdd, Nat.reduceMul, Nat.reduceLeDiff, Nat.reduceSub, Nat.reduceLT, Nat.zero_lt_succ, Int.reduceToNat, Int.reduceAdd, Int.reduceSub, Int.reduceMul, Int.reduceNeg, Int.reduceLT, Int.reduceLE, Int.reduceEq, Int.reduceBEq, Int.reduceBNe, Nat.reduceBEq, List.reduceReplicate]; try rfl))
      · have hz : (e == 0) = false := by simpa using he
        rw [hend (.inr he)] at hk
        repeat' (first
          | with_reducible refine t_seq fun K => ?_
          | with_reducible refine t_block ?_
          | with_reducible refine t_scope ?_
          | with_reducible refine t_label ?_
          | with_reducible refine t_skip ?_
          | with_reducible refine t_exit ?_
          | with_reducible refine t_ret ?_
          | with_reducible refine t_k ?_
          | (with_reducible refine t_gF ?_)
          | ((first | with_reducible refine t_kE ?_ | with_reducible refine t_kD ?_ | with_reducible refine t_gS ?_ | with_reducible refine t_kL ?_ | (with_reducible refine t_kLE ?_ ?_; rotate_left) | with_reducible refine t_region fun K => ?_ | with_reducible refine t_draw (by kernel_rfl) fun K => ?_); simp only [go_sem, Int.cast_ofNat_Int, Nat.reduceEqDiff, reduceIte, Nat.reduceAdd, Nat.reduceMul, Nat.reduceLeDiff, Nat.reduceSub, Nat.reduceLT, Nat.zero_lt_succ, Int.reduceToNat, Int.reduceAdd, Int.reduceSub, Int.reduceMul, Int.reduceNeg, Int.reduceLT, Int.reduceLE, Int.reduceEq, Int.reduceBEq, Int.reduceBNe, Nat.reduceBEq, List.reduceReplicate, g1, lk_o ho, hz, src])
          | (with_reducible exact kp_nil)
          | (with_reducible exact Kp.refl _)
          | (with_reducible exact kp_to)
          | (with_reducible refine kp_cons ?_)
          | (with_reducible refine kp_arr ?_)
          | (with_reducible refine kp_app ?_)
          | ((with_reducible refine t_cond fun A B => ?_); simp only [go_sem, Int.cast_ofNat_Int, Nat.reduceEqDiff, reduceIte, Nat.reduceAdd, Nat.reduceMul, Nat.reduceLeDiff, Nat.reduceSub, Nat.reduceLT, Nat.zero_lt_succ, Int.reduceToNat, Int.reduceAdd, Int.reduceSub, Int.reduceMul, Int.reduceNeg, Int.reduceLT, Int.reduceLE, Int.reduceEq, Int.reduceBEq, Int.reduceBNe, Nat.reduceBEq, List.reduceReplicate, g1, lk_o ho, hz, src]; first | (with_reducible refine A.h ?_) | (with_reducible refine B.h ?_) | refine And.intro (fun hc => A.h ?_) (fun hc => B.h ?_))
          | simp only [thenQ_n, thenQ_r, thenQ_e, blockQ_n, blockQ_r, blockQ_e, scopeQ_n, scopeQ_r, scopeQ_e, Nat.reduceEqDiff, reduceIte]
          | (with_reducible refine And.intro ?_ ?_)
          | with_reducible intro vr)
        refine end_ret rfl ?_
        simp only [finE, go_sem, Int.cast_ofNat_Int, Nat.reduceEqDiff, reduceIte, Nat.reduceAdd, Nat.reduceMul, Nat.reduceLeDiff, Nat.reduceSub, Nat.reduceLT, Nat.zero_lt_succ, Int.reduceToNat, Int.reduceAdd, Int.reduceSub, Int.reduceMul, Int.reduceNeg, Int.reduceLT, Int.reduceLE, Int.reduceEq, Int.reduceBEq, Int.reduceBNe, Nat.reduceBEq, List.reduceReplicate, lk_e, st_e, tk_e]
        exact ⟨_, _, rfl, LeA.refl _, bds_src hbd o _ _, hk⟩
    · have g1 : decide ((i : Int) < n) = false := decide_eq_false (by omega)
      rw [hend (.inl g1)] at hk
      repeat' (first
        | with_reducible refine t_seq fun K => ?_
        | with_reducible refine t_block ?_
        | with_reducible refine t_scope ?_
        | with_reducible refine t_label ?_
        | with_reducible refine t_skip ?_
        | with_reducible refine t_exit ?_
        | with_reducible refine t_ret ?_
        | with_reducible refine t_k ?_
        | (with_reducible refine t_gF ?_)
        | ((first | with_reducible refine t_kE ?_ | with_reducible refine t_kD ?_ | with_reducible refine t_gS ?_ | with_reducible refine t_kL ?_ | (with_reducible refine t_kLE ?_ ?_; rotate_left) | with_reducible refine t_region fun K => ?_ | with_reducible refine t_draw (by kernel_rfl) fun K => ?_); simp only [go_sem, Int.cast_ofNat_Int, Nat.reduceEqDiff, reduceIte, Nat.reduceAdd, Nat.reduceMul, Nat.reduceLeDiff, Nat.reduceSub, Nat.reduceLT, Nat.zero_lt_succ, Int.reduceToNat, Int.reduceAdd, Int.reduceSub, Int.reduceMul, Int.reduceNeg, Int.reduceLT, Int.reduceLE, Int.reduceEq, Int.reduceBEq, Int.reduceBNe, Nat.reduceBEq, List.reduceReplicate, g1, lk_o ho, src])
        | (with_reducible exact kp_nil)
        | (with_reducible exact Kp.refl _)
        | (with_reducible exact kp_to)
        | (with_reducible refine kp_cons ?_)
        | (with_reducible refine kp_arr ?_)
        | (with_reducible refine kp_app ?_)
        | ((with_reducible refine t_cond fun A B => ?_); simp only [go_sem, Int.cast_ofNat_Int, Nat.reduceEqDiff, reduceIte, Nat.reduceAdd, Nat.reduceMul, Nat.reduceLeDiff, Nat.reduceSub, Nat.reduceLT, Nat.zero_lt_succ, Int.reduceToNat, Int.reduceAdd, Int.reduceSub, Int.reduceMul, Int.reduceNeg, Int.reduceLT, Int.reduceLE, Int.reduceEq, Int.reduceBEq, Int.reduceBNe, Nat.reduceBEq, List.reduceReplicate, g1, lk_o ho, src]; first | (with_reducible refine A.h ?_) | (with_reducible refine B.h ?_) | refine And.intro (fun hc => A.h ?_) (fun hc => B.h ?_))
        | simp only [thenQ_n, thenQ_r, thenQ_e, blockQ_n, blockQ_r, blockQ_e, scopeQ_n, scopeQ_r, scopeQ_e, Nat.reduceEqDiff, reduceIte]
        | (with_reducible refine And.intro ?_ ?_)
        | with_reducible intro vr)
      refine end_ret rfl ?_
      simp only [finE, go_sem, Int.cast_ofNat_Int, Nat.reduceEqDiff, reduceIte, Nat.reduceAdd, Nat.reduceMul, Nat.reduceLeDiff, Nat.reduceSub, Nat.reduceLT, Nat.zero_lt_succ, Int.reduceToNat, Int.reduceAdd, Int.reduceSub, Int.reduceMul, Int.reduceNeg, Int.reduceLT, Int.reduceLE, Int.reduceEq, Int.reduceBEq, Int.reduceBNe, Nat.reduceBEq, List.reduceReplicate, lk_e, st_e, tk_e]
      exact ⟨_, _, rfl, LeA.refl _, bds_src hbd o _ _, hk⟩
theorem oneI_ec {σ : List AObj} {o bp bx by' : Nat} {l : List Int} {lo hi : Int} (ho : σ[o]? = some (src l 0)) (hp : σ[bp]? = some (.box 45 [.ref o 0])) (hbx : σ[bx]? = some (.box 3 [.lit (.int .i64 lo)])) (hby' : σ[by']? = some (.box 3 [.lit (.int .i64 hi)])) (hl : okL l) {k : AV → List AObj → Prop}
    (hk : k (.lit (.int .i64 (numS l 0 lo hi 2).1)) (σ.set o (src (numS l 0 lo hi 2).2.1 (numS l 0 lo hi 2).2.2))) : EC Try.prog 61 [.ref bp 0, .ref bx 0, .ref by' 0] σ k := by
  have hf : ∀ {p}, srcAt σ o p = p σ l 0 := srcAt_src ho
  refine ec_of E31_ok mixed (fun _ => [0, 1, 2, 3]) Try.func61 rfl (by kernel_rfl) (Nat.le_of_ble_eq_true rfl) ?_
  simp only [initF_cons, initF_nil, Nat.reduceAdd]
  refine t_name fun KF => ?_
  unfold E31
  repeat' (first
    | with_reducible refine t_seq fun K => ?_
    | with_reducible refine t_block ?_
    | with_reducible refine t_scope ?_
    | with_reducible refine t_label ?_
    | with_reducible refine t_skip ?_
    | with_reducible refine t_exit ?_
    | with_reducible refine t_ret ?_
    | with_reducible refine t_k ?_
    | (with_reducible refine t_gF ?_)
    | ((first | with_reducible refine t_kE ?_ | with_reducible refine t_kD ?_ | with_reducible refine t_gS ?_ | with_reducible refine t_kL ?_ | (with_reducible refine t_kLE ?_ ?_; rotate_left) | with_reducible refine t_region fun K => ?_ | with_reducible refine t_draw (by kernel_rfl) fun K => ?_); simp only [go_sem, Int.cast_ofNat_Int, Nat.reduceEqDiff, reduceIte, Nat.reduceAdd, Nat.reduceMul, Nat.reduceLeDiff, Nat.reduceSub, Nat.reduceLT, Nat.zero_lt_succ, Int.reduceToNat, Int.reduceAdd, Int.reduceSub, Int.reduceMul, Int.reduceNeg, Int.reduceLT, Int.reduceLE, Int.reduceEq, Int.reduceBEq, Int.reduceBNe, Nat.reduceBEq, List.reduceReplicate, hp, hbx, hby', numCon_f, numCon_c, wordCon_f, wordCon_c, hf, hl])
    | (with_reducible exact kp_nil)
    | (with_reducible exact Kp.refl _)
    | (with_reducible exact kp_to)
    | (with_reducible refine kp_cons ?_)
    | (with_reducible refine kp_arr ?_)
    | (with_reducible refine kp_app ?_)
    | ((with_reducible refine t_cond fun A B => ?_); simp only [go_sem, Int.cast_ofNat_Int, Nat.reduceEqDiff, reduceIte, Nat.reduceAdd, Nat.reduceMul, Nat.reduceLeDiff, Nat.reduceSub, Nat.reduceLT, Nat.zero_lt_succ, Int.reduceToNat, Int.reduceAdd, Int.reduceSub, Int.reduceMul, Int.reduceNeg, Int.reduceLT, Int.reduceLE, Int.reduceEq, Int.reduceBEq, Int.reduceBNe, Nat.reduceBEq, List.reduceReplicate, hp, hbx, hby', numCon_f, numCon_c, wordCon_f, wordCon_c, hf, hl]; first | (with_reducible refine A.h ?_) | (with_reducible refine B.h ?_) | refine And.intro (fun hc => A.h ?_) (fun hc => B.h ?_))
    | simp only [thenQ_n, thenQ_r, thenQ_e, blockQ_n, blockQ_r, blockQ_e, scopeQ_n, scopeQ_r, scopeQ_e, Nat.reduceEqDiff, reduceIte]
    | (with_reducible refine And.intro ?_ ?_)
    | with_reducible intro vr)
  exact end_ret rfl hk
noncomputable def oneICon : ECon Try.prog where
  f := 61
  c := fun args σ k => match args with
    | [.ref bp 0, .ref bx 0, .ref by' 0] => match σ[bp]? with
      | some (.box 45 [.ref o 0]) => srcAt σ o fun σ' l e0 => match σ'[bp]?, σ'[bx]?, σ'[by']? with
        | some (.box 45 [.ref o' 0]), some (.box 3 [.lit (.int .i64 lo)]), some (.box 3 [.lit (.int .i64 hi)]) => (o' = o ∧ e0 = 0 ∧ okL l) ∧ k (.lit (.int .i64 (numS l 0 lo hi 2).1)) (σ'.set o (src (numS l 0 lo hi 2).2.1 (numS l 0 lo hi 2).2.2))
        | _, _, _ => False
      | _ => False
    | _ => False
  ok := by
    intro args σ k h
    split at h
    · split at h
      · obtain ⟨σ', l, e0, h1, h2, h3⟩ := srcAt_inv h
        split at h3
        · rename_i hp hbx hby'
          obtain ⟨⟨rfl, rfl, hl⟩, h4⟩ := h3
          exact EC.clB h1 (oneI_ec h2 hp hbx hby' hl h4)
        · exact h3.elim
      · exact h.elim
    · exact h.elim
  fk := fk61
theorem oneICon_f : oneICon.f = 61 := rfl
theorem oneICon_c {σ : List AObj} {k : AV → List AObj → Prop} {bp bx by' : Nat} : oneICon.c [.ref bp 0, .ref bx 0, .ref by' 0] σ k = match σ[bp]? with
      | some (.box 45 [.ref o 0]) => srcAt σ o fun σ' l e0 => match σ'[bp]?, σ'[bx]?, σ'[by']? with
        | some (.box 45 [.ref o' 0]), some (.box 3 [.lit (.int .i64 lo)]), some (.box 3 [.lit (.int .i64 hi)]) => (o' = o ∧ e0 = 0 ∧ okL l) ∧ k (.lit (.int .i64 (numS l 0 lo hi 2).1)) (σ'.set o (src (numS l 0 lo hi 2).2.1 (numS l 0 lo hi 2).2.2))
        | _, _, _ => False
      | _ => False := rfl
noncomputable def FI : Env := envOf (P := Try.prog) zer (fun _ => false) (fun _ => false) [] [numCon, oneICon]
theorem FI_ok : EnvOk Try.prog FI := envOk zer_ok
set_option maxHeartbeats 1000000 in
theorem manyI_ec {σ : List AObj} {o bp bx by' : Nat} {l : List Int} {most lo hi : Int} (ho : σ[o]? = some (src l 0)) (hp : σ[bp]? = some (.box 45 [.ref o 0])) (hbx : σ[bx]? = some (.box 3 [.lit (.int .i64 lo)])) (hby' : σ[by']? = some (.box 3 [.lit (.int .i64 hi)])) (hl : okL l) {k : AV → List AObj → Prop}
    (hk : k (.sl false 1 (ints .i64 (manyS (fun l e => numS l e lo hi 2) l 0 most).1)) (σ.set o (src (manyS (fun l e => numS l e lo hi 2) l 0 most).2.1 (manyS (fun l e => numS l e lo hi 2) l 0 most).2.2))) :
    EC Try.prog 60 [.ref o 0, .lit (.int .i64 most), .fn (.func 61) [] [.ref bp 0, .ref bx 0, .ref by' 0]] σ k := by
  refine ec_fin fun hbd => ?_
  have hf : ∀ {p}, srcAt σ o p = p σ l 0 := srcAt_src ho
  obtain ⟨h1, h2, h3⟩ := numS_ok (lo := 0) (hi := most) (e := 3) hl (by decide)
  have hR : Rd (fun l e => numS l e lo hi 2) := (rd_num (by decide))
  unfold manyS at hk
  generalize hN : numS l 0 0 most 3 = a at hk h1 h2 h3
  obtain ⟨n, r0, e0⟩ := a
  simp only at hk h1 h2 h3
  have hlen := okL_len h1
  have np : o ≠ bp := fun e => by subst e; rw [ho] at hp; cases hp
  have nbx : o ≠ bx := fun e => by subst e; rw [ho] at hbx; cases hbx
  have nby' : o ≠ by' := fun e => by subst e; rw [ho] at hby'; cases hby'
  have hsr : ∀ {r e m p}, srcAt (σ.set o (.box 26 [.sl false 1 (ints .u8 r), .lit (.int .i64 e)]) ++ m) o p = p (σ.set o (src r e) ++ m) r e := srcAt_src (lk_o ho _ _)
  have hn9 : inI64 n := by
    by_cases he : e0 = 0
    · exact (h2 he).2.2.2
    · rw [(h3 he).1]; exact ⟨by decide, by decide⟩
  unfold inI64 at hn9
  refine ec_of FI_ok mixed (fun _ => [0, 1, 2, 6, 7, 8, 9, 22]) Try.func60 rfl (by kernel_rfl) (Nat.le_of_ble_eq_true rfl) ?_
  simp only [initF_cons, initF_nil, Nat.reduceAdd]
  refine t_name fun KF => ?_
  unfold FI
  repeat' (first
    | with_reducible refine t_seq fun K => ?_
    | with_reducible refine t_block ?_
    | with_reducible refine t_scope ?_
    | with_reducible refine t_label ?_
    | with_reducible refine t_skip ?_
    | with_reducible refine t_exit ?_
    | with_reducible refine t_ret ?_
    | with_reducible refine t_k ?_
    | (with_reducible refine t_gF ?_)
    | ((first | with_reducible refine t_kE ?_ | with_reducible refine t_kD ?_ | with_reducible refine t_gS ?_ | with_reducible refine t_kL ?_ | (with_reducible refine t_kLE ?_ ?_; rotate_left) | with_reducible refine t_region fun K => ?_ | with_reducible refine t_draw (by kernel_rfl) fun K => ?_); simp only [go_sem, Int.cast_ofNat_Int, Nat.reduceEqDiff, reduceIte, Nat.reduceAdd, Nat.reduceMul, Nat.reduceLeDiff, Nat.reduceSub, Nat.reduceLT, Nat.zero_lt_succ, Int.reduceToNat, Int.reduceAdd, Int.reduceSub, Int.reduceMul, Int.reduceNeg, Int.reduceLT, Int.reduceLE, Int.reduceEq, Int.reduceBEq, Int.reduceBNe, Nat.reduceBEq, List.reduceReplicate, numCon_f, numCon_c, hf, hl, hN, src])
    | (with_reducible exact kp_nil)
    | (with_reducible exact Kp.refl _)
    | (with_reducible exact kp_to)
    | (with_reducible refine kp_cons ?_)
    | (with_reducible refine kp_arr ?_)
    | (with_reducible refine kp_app ?_)
    | ((with_reducible refine t_cond fun A B => ?_); simp only [go_sem, Int.cast_ofNat_Int, Nat.reduceEqDiff, reduceIte, Nat.reduceAdd, Nat.reduceMul, Nat.reduceLeDiff, Nat.reduceSub, Nat.reduceLT, Nat.zero_lt_succ, Int.reduceToNat, Int.reduceAdd, Int.reduceSub, Int.reduceMul, Int.reduceNeg, Int.reduceLT, Int.reduceLE, Int.reduceEq, Int.reduceBEq, Int.reduceBNe, Nat.reduceBEq, List.reduceReplicate, numCon_f, numCon_c, hf, hl, hN, src]; first | (with_reducible refine A.h ?_) | (with_reducible refine B.h ?_) | refine And.intro (fun hc => A.h ?_) (fun hc => B.h ?_))
    | simp only [thenQ_n, thenQ_r, thenQ_e, blockQ_n, blockQ_r, blockQ_e, scopeQ_n, scopeQ_r, scopeQ_e, Nat.reduceEqDiff, reduceIte]
    | (with_reducible refine And.intro ?_ ?_)
    | with_reducible intro vr)
  refine t_loop (ι := Lp (fun l e => numS l e lo hi 2) n.toNat (iterS (fun l e => numS l e lo hi 2) n.toNat ([], r0, e0))) (fun p => ⟨upd (upd (upd (upd (upd topF 9 (.lit (.int .i64 p.i))) 8 (.arr σ.length p.ver)) 7 (.lit (.int .i64 n))) 2 (.fn (.func 61) [] [.ref bp 0, .ref bx 0, .ref by' 0])) 0 (.ref o 0),
    σ.set o (src p.r p.e) ++ [.arr 3 1 (ints .i64 p.out) p.ver false]⟩) (fun p => n.toNat - p.i) ⟨0, [], r0, e0, 0, rfl, h1, rfl, by simp only [List.length_nil]; omega, fun _ => by simp only [List.length_nil]; omega⟩ ?_ ?_
  · refine (le_nil 8 3 1 rfl).trans ?_
    (refine Le.frame ?_; repeat' (first | exact leF_top _ | (with_reducible refine leF_sl ?_ ?_) | (refine leF_upd (LeR.of_eq ?_) ?_))) <;> (try (simp only [go_sem, Int.cast_ofNat_Int, Nat.reduceEqDiff, reduceIte, Nat.reduceAdd, Nat.reduceMul, Nat.reduceLeDiff, Nat.reduceSub, Nat.reduceLT, Nat.zero_lt_succ, Int.reduceToNat, Int.reduceAdd, Int.reduceSub, Int.reduceMul, Int.reduceNeg, Int.reduceLT, Int.reduceLE, Int.reduceEq, Int.reduceBEq, Int.reduceBNe, Nat.reduceBEq, List.reduceReplicate]; try rfl))
  · rintro ⟨i, out, r, e, ver, hF, hr, hil, hb, hb0⟩ K0
    have hend : decide ((i : Int) < n) = false ∨ e ≠ 0 → iterS (fun l e => numS l e lo hi 2) n.toNat ([], r0, e0) = (out, r, e) := by
      rintro (h | h)
      · rw [← hF, show n.toNat - i = 0 by rw [decide_eq_false_iff_not] at h; omega]; rfl
      · rw [← hF]; exact iterS_done h
    rcases Int.lt_or_le (i : Int) n with hc | hc
    · have g1 : decide ((i : Int) < n) = true := decide_eq_true hc
      by_cases he : e = 0
      · subst he
        have hd := hR r hr
        rw [show n.toNat - i = (n.toNat - (i + 1)) + 1 by omega, iterS_step] at hF
        simp only at hF hd
        generalize hO : numS r 0 lo hi 2 = z at hF hd
        obtain ⟨x, r', e'⟩ := z
        simp only at hF hd
        have hb0 := hb0 rfl
        repeat' (first
          | with_reducible refine t_seq fun K => ?_
          | with_reducible refine t_block ?_
          | with_reducible refine t_scope ?_
          | with_reducible refine t_label ?_
          | with_reducible refine t_skip ?_
          | with_reducible refine t_exit ?_
          | with_reducible refine t_ret ?_
          | with_reducible refine t_k ?_
          | (with_reducible refine t_gF ?_)
          | ((first | with_reducible refine t_kE ?_ | with_reducible refine t_kD ?_ | with_reducible refine t_gS ?_ | with_reducible refine t_kL ?_ | (with_reducible refine t_kLE ?_ ?_; rotate_left) | with_reducible refine t_region fun K => ?_ | with_reducible refine t_draw (by kernel_rfl) fun K => ?_); simp only [go_sem, Int.cast_ofNat_Int, Nat.reduceEqDiff, reduceIte, Nat.reduceAdd, Nat.reduceMul, Nat.reduceLeDiff, Nat.reduceSub, Nat.reduceLT, Nat.zero_lt_succ, Int.reduceToNat, Int.reduceAdd, Int.reduceSub, Int.reduceMul, Int.reduceNeg, Int.reduceLT, Int.reduceLE, Int.reduceEq, Int.reduceBEq, Int.reduceBNe, Nat.reduceBEq, List.reduceReplicate, g1, lk_o ho, lk_n hp np, lk_n hbx nbx, lk_n hby' nby', lk_e, st_e, st_o ho, hsr, src, oneICon_f, oneICon_c, hr, hO, numCon_f])
          | (with_reducible exact kp_nil)
          | (with_reducible exact Kp.refl _)
          | (with_reducible exact kp_to)
          | (with_reducible refine kp_cons ?_)
          | (with_reducible refine kp_arr ?_)
          | (with_reducible refine kp_app ?_)
          | ((with_reducible refine t_cond fun A B => ?_); simp only [go_sem, Int.cast_ofNat_Int, Nat.reduceEqDiff, reduceIte, Nat.reduceAdd, Nat.reduceMul, Nat.reduceLeDiff, Nat.reduceSub, Nat.reduceLT, Nat.zero_lt_succ, Int.reduceToNat, Int.reduceAdd, Int.reduceSub, Int.reduceMul, Int.reduceNeg, Int.reduceLT, Int.reduceLE, Int.reduceEq, Int.reduceBEq, Int.reduceBNe, Nat.reduceBEq, List.reduceReplicate, g1, lk_o ho, lk_n hp np, lk_n hbx nbx, lk_n hby' nby', lk_e, st_e, st_o ho, hsr, src, oneICon_f, oneICon_c, hr, hO, numCon_f]; first | (with_reducible refine A.h ?_) | (with_reducible refine B.h ?_) | refine And.intro (fun hc => A.h ?_) (fun hc => B.h ?_))
          | simp only [thenQ_n, thenQ_r, thenQ_e, blockQ_n, blockQ_r, blockQ_e, scopeQ_n, scopeQ_r, scopeQ_e, Nat.reduceEqDiff, reduceIte]
          | (with_reducible refine And.intro ?_ ?_)
          | with_reducible intro vr)
        all_goals try (intros; (try simp only [Bool.and_eq_true, Bool.or_eq_true, Bool.not_eq_true', decide_eq_true_eq, decide_eq_false_iff_not, beq_iff_eq, bne_iff_ne, ne_eq, inI64, List.length_append] at *) <;> omega)
        refine ⟨⟨i + 1, out ++ [x], r', e', ver + 1, hF, hd.1, by simp only [List.length_append, List.length_singleton]; omega, by simp only [List.length_append, List.length_singleton]; omega, fun h => by have := hd.2.2 h; simp only [List.length_append, List.length_singleton]; omega⟩, by simp only; omega, ?_⟩
        (refine Le.frame ?_; repeat' (first | exact leF_top _ | (with_reducible refine leF_sl ?_ ?_) | (refine leF_upd (LeR.of_eq ?_) ?_))) <;> (try (simp only [go_sem, Int.cast_ofNat_Int, Nat.reduceEqDiff, reduceIte, Nat.reduceAdd, Nat.reduceMul, Nat.reduceLeDiff, Nat.reduceSub, Nat.reduceLT, Nat.zero_lt_succ, Int.reduceToNat, Int.reduceAdd, Int.reduceSub, Int.reduceMul, Int.reduceNeg, Int.reduceLT, Int.reduceLE, Int.reduceEq, Int.reduceBEq, Int.reduceBNe, Nat.reduceBEq, List.reduceReplicate]; try rfl))
      · have hz : (e == 0) = false := by simpa using he
        rw [hend (.inr he)] at hk
        repeat' (first
          | with_reducible refine t_seq fun K => ?_
          | with_reducible refine t_block ?_
          | with_reducible refine t_scope ?_
          | with_reducible refine t_label ?_
          | with_reducible refine t_skip ?_
          | with_reducible refine t_exit ?_
          | with_reducible refine t_ret ?_
          | with_reducible refine t_k ?_
          | (with_reducible refine t_gF ?_)
          | ((first | with_reducible refine t_kE ?_ | with_reducible refine t_kD ?_ | with_reducible refine t_gS ?_ | with_reducible refine t_kL ?_ | (with_reducible refine t_kLE ?_ ?_; rotate_left) | with_reducible refine t_region fun K => ?_ | with_reducible refine t_draw (by kernel_rfl) fun K => ?_); simp only [go_sem, Int.cast_ofNat_Int, Nat.reduceEqDiff, reduceIte, Nat.reduceAdd, Nat.reduceMul, Nat.reduceLeDiff, Nat.reduceSub, Nat.reduceLT, Nat.zero_lt_succ, Int.reduceToNat, Int.reduceAdd, Int.reduceSub, Int.reduceMul, Int.reduceNeg, Int.reduceLT, Int.reduceLE, Int.reduceEq, Int.reduceBEq, Int.reduceBNe, Nat.reduceBEq, List.reduceReplicate, g1, lk_o ho, hz, src])
          | (with_reducible exact kp_nil)
          | (with_reducible exact Kp.refl _)
          | (with_reducible exact kp_to)
          | (with_reducible refine kp_cons ?_)
          | (with_reducible refine kp_arr ?_)
          | (with_reducible refine kp_app ?_)
          | ((with_reducible refine t_cond fun A B => ?_); simp only [go_sem, Int.cast_ofNat_Int, Nat.reduceEqDiff, reduceIte, Nat.reduceAdd, Nat.reduceMul, Nat.reduceLeDiff, Nat.reduceSub, Nat.reduceLT, Nat.zero_lt_succ, Int.reduceToNat, Int.reduceAdd, Int.reduceSub, Int.reduceMul, Int.reduceNeg, Int.reduceLT, Int.reduceLE, Int.reduceEq, Int.reduceBEq, Int.reduceBNe, Nat.reduceBEq, List.reduceReplicate, g1, lk_o ho, hz, src]; first | (with_reducible refine A.h ?_) | (with_reducible refine B.h ?_) | refine And.intro (fun hc => A.h ?_) (fun hc => B.h ?_))
          | simp only [thenQ_n, thenQ_r, thenQ_e, blockQ_n, blockQ_r, blockQ_e, scopeQ_n, scopeQ_r, scopeQ_e, Nat.reduceEqDiff, reduceIte]
          | (with_reducible refine And.intro ?_ ?_)
          | with_reducible intro vr)
        refine end_ret rfl ?_
        simp only [finE, go_sem, Int.cast_ofNat_Int, Nat.reduceEqDiff, reduceIte, Nat.reduceAdd, Nat.reduceMul, Nat.reduceLeDiff, Nat.reduceSub, Nat.reduceLT, Nat.zero_lt_succ, Int.reduceToNat, Int.reduceAdd, Int.reduceSub, Int.reduceMul, Int.reduceNeg, Int.reduceLT, Int.reduceLE, Int.reduceEq, Int.reduceBEq, Int.reduceBNe, Nat.reduceBEq, List.reduceReplicate, lk_e, st_e, tk_e]
        exact ⟨_, _, rfl, LeA.refl _, bds_src hbd o _ _, hk⟩
    · have g1 : decide ((i : Int) < n) = false := decide_eq_false (by omega)
      rw [hend (.inl g1)] at hk
      repeat' (first
        | with_reducible refine t_seq fun K => ?_
        | with_reducible refine t_block ?_
        | with_reducible refine t_scope ?_
        | with_reducible refine t_label ?_
        | with_reducible refine t_skip ?_
        | with_reducible refine t_exit ?_
        | with_reducible refine t_ret ?_
        | with_reducible refine t_k ?_
        | (with_reducible refine t_gF ?_)
        | ((first | with_reducible refine t_kE ?_ | with_reducible refine t_kD ?_ | with_reducible refine t_gS ?_ | with_reducible refine t_kL ?_ | (with_reducible refine t_kLE ?_ ?_; rotate_left) | with_reducible refine t_region fun K => ?_ | with_reducible refine t_draw (by kernel_rfl) fun K => ?_); simp only [go_sem, Int.cast_ofNat_Int, Nat.reduceEqDiff, reduceIte, Nat.reduceAdd, Nat.reduceMul, Nat.reduceLeDiff, Nat.reduceSub, Nat.reduceLT, Nat.zero_lt_succ, Int.reduceToNat, Int.reduceAdd, Int.reduceSub, Int.reduceMul, Int.reduceNeg, Int.reduceLT, Int.reduceLE, Int.reduceEq, Int.reduceBEq, Int.reduceBNe, Nat.reduceBEq, List.reduceReplicate, g1, lk_o ho, src])
        | (with_reducible exact kp_nil)
        | (with_reducible exact Kp.refl _)
        | (with_reducible exact kp_to)
        | (with_reducible refine kp_cons ?_)
        | (with_reducible refine kp_arr ?_)
        | (with_reducible refine kp_app ?_)
        | ((with_reducible refine t_cond fun A B => ?_); simp only [go_sem, Int.cast_ofNat_Int, Nat.reduceEqDiff, reduceIte, Nat.reduceAdd, Nat.reduceMul, Nat.reduceLeDiff, Nat.reduceSub, Nat.reduceLT, Nat.zero_lt_succ, Int.reduceToNat, Int.reduceAdd, Int.reduceSub, Int.reduceMul, Int.reduceNeg, Int.reduceLT, Int.reduceLE, Int.reduceEq, Int.reduceBEq, Int.reduceBNe, Nat.reduceBEq, List.reduceReplicate, g1, lk_o ho, src]; first | (with_reducible refine A.h ?_) | (with_reducible refine B.h ?_) | refine And.intro (fun hc => A.h ?_) (fun hc => B.h ?_))
        | simp only [thenQ_n, thenQ_r, thenQ_e, blockQ_n, blockQ_r, blockQ_e, scopeQ_n, scopeQ_r, scopeQ_e, Nat.reduceEqDiff, reduceIte]
        | (with_reducible refine And.intro ?_ ?_)
        | with_reducible intro vr)
      refine end_ret rfl ?_
      simp only [finE, go_sem, Int.cast_ofNat_Int, Nat.reduceEqDiff, reduceIte, Nat.reduceAdd, Nat.reduceMul, Nat.reduceLeDiff, Nat.reduceSub, Nat.reduceLT, Nat.zero_lt_succ, Int.reduceToNat, Int.reduceAdd, Int.reduceSub, Int.reduceMul, Int.reduceNeg, Int.reduceLT, Int.reduceLE, Int.reduceEq, Int.reduceBEq, Int.reduceBNe, Nat.reduceBEq, List.reduceReplicate, lk_e, st_e, tk_e]
      exact ⟨_, _, rfl, LeA.refl _, bds_src hbd o _ _, hk⟩
noncomputable def manyTCon : ECon Try.prog where
  f := 46
  c := fun args σ k => match args with
    | [.ref o 0, .lit (.int .i64 most), .fn (.func 47) [] [.ref bp 0, .ref bl 0]] => srcAt σ o fun σ' l e0 => match σ'[bp]?, σ'[bl]? with
        | some (.box 45 [.ref o' 0]), some (.box 3 [.lit (.int .i64 long)]) => (o' = o ∧ e0 = 0 ∧ okL l) ∧ k (.sl false 1 (strs (manyS (fun l e => wordS l e long) l 0 most).1)) (σ'.set o (src (manyS (fun l e => wordS l e long) l 0 most).2.1 (manyS (fun l e => wordS l e long) l 0 most).2.2))
        | _, _ => False
    | _ => False
  ok := by
    intro args σ k h
    split at h
    · obtain ⟨σ', l, e0, h1, h2, h3⟩ := srcAt_inv h
      split at h3
      · rename_i hp hbl
        obtain ⟨⟨rfl, rfl, hl⟩, h4⟩ := h3
        exact EC.clB h1 (manyT_ec h2 hp hbl hl h4)
      · exact h3.elim
    · exact h.elim
  fk := fk46
theorem manyTCon_f : manyTCon.f = 46 := rfl
theorem manyTCon_c {σ : List AObj} {k : AV → List AObj → Prop} {o bp bl : Nat} {most : Int} : manyTCon.c [.ref o 0, .lit (.int .i64 most), .fn (.func 47) [] [.ref bp 0, .ref bl 0]] σ k = srcAt σ o fun σ' l e0 => match σ'[bp]?, σ'[bl]? with
        | some (.box 45 [.ref o' 0]), some (.box 3 [.lit (.int .i64 long)]) => (o' = o ∧ e0 = 0 ∧ okL l) ∧ k (.sl false 1 (strs (manyS (fun l e => wordS l e long) l 0 most).1)) (σ'.set o (src (manyS (fun l e => wordS l e long) l 0 most).2.1 (manyS (fun l e => wordS l e long) l 0 most).2.2))
        | _, _ => False := rfl
noncomputable def manyICon : ECon Try.prog where
  f := 60
  c := fun args σ k => match args with
    | [.ref o 0, .lit (.int .i64 most), .fn (.func 61) [] [.ref bp 0, .ref bx 0, .ref by' 0]] => srcAt σ o fun σ' l e0 => match σ'[bp]?, σ'[bx]?, σ'[by']? with
        | some (.box 45 [.ref o' 0]), some (.box 3 [.lit (.int .i64 lo)]), some (.box 3 [.lit (.int .i64 hi)]) => (o' = o ∧ e0 = 0 ∧ okL l) ∧ k (.sl false 1 (ints .i64 (manyS (fun l e => numS l e lo hi 2) l 0 most).1)) (σ'.set o (src (manyS (fun l e => numS l e lo hi 2) l 0 most).2.1 (manyS (fun l e => numS l e lo hi 2) l 0 most).2.2))
        | _, _, _ => False
    | _ => False
  ok := by
    intro args σ k h
    split at h
    · obtain ⟨σ', l, e0, h1, h2, h3⟩ := srcAt_inv h
      split at h3
      · rename_i hp hbx hby'
        obtain ⟨⟨rfl, rfl, hl⟩, h4⟩ := h3
        exact EC.clB h1 (manyI_ec h2 hp hbx hby' hl h4)
      · exact h3.elim
    · exact h.elim
  fk := fk60
theorem manyICon_f : manyICon.f = 60 := rfl
theorem manyICon_c {σ : List AObj} {k : AV → List AObj → Prop} {o bp bx by' : Nat} {most : Int} : manyICon.c [.ref o 0, .lit (.int .i64 most), .fn (.func 61) [] [.ref bp 0, .ref bx 0, .ref by' 0]] σ k = srcAt σ o fun σ' l e0 => match σ'[bp]?, σ'[bx]?, σ'[by']? with
        | some (.box 45 [.ref o' 0]), some (.box 3 [.lit (.int .i64 lo)]), some (.box 3 [.lit (.int .i64 hi)]) => (o' = o ∧ e0 = 0 ∧ okL l) ∧ k (.sl false 1 (ints .i64 (manyS (fun l e => numS l e lo hi 2) l 0 most).1)) (σ'.set o (src (manyS (fun l e => numS l e lo hi 2) l 0 most).2.1 (manyS (fun l e => numS l e lo hi 2) l 0 most).2.2))
        | _, _, _ => False := rfl
noncomputable def E32 : Env := envOf (P := Try.prog) zer (fun _ => false) (fun _ => false) [] [numCon, wordCon, manyTCon, manyICon]
theorem E32_ok : EnvOk Try.prog E32 := envOk zer_ok
/-- What a reading of a truth value yields. -/
def boolS (l : List Int) : Bool × List Int × Int := ((numS l 0 0 1 2).1 == 1, (numS l 0 0 1 2).2)
theorem cloT_ec {σ : List AObj} {o bm bl : Nat} {l : List Int} {most long : Int} (ho : σ[o]? = some (src l 0)) (hbm : σ[bm]? = some (.box 3 [.lit (.int .i64 most)])) (hbl : σ[bl]? = some (.box 3 [.lit (.int .i64 long)])) (hl : okL l) {k : AV → List AObj → Prop}
    (hk : k (.sl false 1 (strs (manyS (fun l e => wordS l e long) l 0 most).1)) (σ.set o (src (manyS (fun l e => wordS l e long) l 0 most).2.1 (manyS (fun l e => wordS l e long) l 0 most).2.2))) : EC Try.prog 45 [.ref o 0, .ref bm 0, .ref bl 0] σ k := by
  refine ec_fin fun hbd => ?_
  have hf : ∀ {m p}, srcAt (σ ++ m) o p = p (σ ++ m) l 0 := srcAt_src (get_app_of ho _)
  refine ec_of E32_ok mixed (fun _ => [0, 1, 2, 3, 4]) Try.func45 rfl (by kernel_rfl) (Nat.le_of_ble_eq_true rfl) ?_
  simp only [initF_cons, initF_nil, Nat.reduceAdd]
  refine t_name fun KF => ?_
  unfold E32
  repeat' (first
    | with_reducible refine t_seq fun K => ?_
    | with_reducible refine t_block ?_
    | with_reducible refine t_scope ?_
    | with_reducible refine t_label ?_
    | with_reducible refine t_skip ?_
    | with_reducible refine t_exit ?_
    | with_reducible refine t_ret ?_
    | with_reducible refine t_k ?_
    | (with_reducible refine t_gF ?_)
    | ((first | with_reducible refine t_kE ?_ | with_reducible refine t_kD ?_ | with_reducible refine t_gS ?_ | with_reducible refine t_kL ?_ | (with_reducible refine t_kLE ?_ ?_; rotate_left) | with_reducible refine t_region fun K => ?_ | with_reducible refine t_draw (by kernel_rfl) fun K => ?_); simp only [go_sem, Int.cast_ofNat_Int, Nat.reduceEqDiff, reduceIte, Nat.reduceAdd, Nat.reduceMul, Nat.reduceLeDiff, Nat.reduceSub, Nat.reduceLT, Nat.zero_lt_succ, Int.reduceToNat, Int.reduceAdd, Int.reduceSub, Int.reduceMul, Int.reduceNeg, Int.reduceLT, Int.reduceLE, Int.reduceEq, Int.reduceBEq, Int.reduceBNe, Nat.reduceBEq, List.reduceReplicate, manyTCon_f, manyICon_f, manyTCon_c, numCon_f, wordCon_f, hf, hl, set_app_of ho, getA0 rfl, get_app_of hbm, get_app_of hbl])
    | (with_reducible exact kp_nil)
    | (with_reducible exact Kp.refl _)
    | (with_reducible exact kp_to)
    | (with_reducible refine kp_cons ?_)
    | (with_reducible refine kp_arr ?_)
    | (with_reducible refine kp_app ?_)
    | ((with_reducible refine t_cond fun A B => ?_); simp only [go_sem, Int.cast_ofNat_Int, Nat.reduceEqDiff, reduceIte, Nat.reduceAdd, Nat.reduceMul, Nat.reduceLeDiff, Nat.reduceSub, Nat.reduceLT, Nat.zero_lt_succ, Int.reduceToNat, Int.reduceAdd, Int.reduceSub, Int.reduceMul, Int.reduceNeg, Int.reduceLT, Int.reduceLE, Int.reduceEq, Int.reduceBEq, Int.reduceBNe, Nat.reduceBEq, List.reduceReplicate, manyTCon_f, manyICon_f, manyTCon_c, numCon_f, wordCon_f, hf, hl, set_app_of ho, getA0 rfl, get_app_of hbm, get_app_of hbl]; first | (with_reducible refine A.h ?_) | (with_reducible refine B.h ?_) | refine And.intro (fun hc => A.h ?_) (fun hc => B.h ?_))
    | simp only [thenQ_n, thenQ_r, thenQ_e, blockQ_n, blockQ_r, blockQ_e, scopeQ_n, scopeQ_r, scopeQ_e, Nat.reduceEqDiff, reduceIte]
    | (with_reducible refine And.intro ?_ ?_)
    | with_reducible intro vr)
  refine end_ret rfl ?_
  simp only [finE, go_sem, Int.cast_ofNat_Int, Nat.reduceEqDiff, reduceIte, Nat.reduceAdd, Nat.reduceMul, Nat.reduceLeDiff, Nat.reduceSub, Nat.reduceLT, Nat.zero_lt_succ, Int.reduceToNat, Int.reduceAdd, Int.reduceSub, Int.reduceMul, Int.reduceNeg, Int.reduceLT, Int.reduceLE, Int.reduceEq, Int.reduceBEq, Int.reduceBNe, Nat.reduceBEq, List.reduceReplicate]
  exact ⟨_, _, rfl, LeA.refl _, bds_src hbd o _ _, hk⟩
noncomputable def cloTCon : ECon Try.prog where
  f := 45
  c := fun args σ k => match args with
    | [.ref o 0, .ref bm 0, .ref bl 0] => srcAt σ o fun σ' l e0 => match σ'[bm]?, σ'[bl]? with
        | some (.box 3 [.lit (.int .i64 most)]), some (.box 3 [.lit (.int .i64 long)]) => (e0 = 0 ∧ okL l) ∧ k (.sl false 1 (strs (manyS (fun l e => wordS l e long) l 0 most).1)) (σ'.set o (src (manyS (fun l e => wordS l e long) l 0 most).2.1 (manyS (fun l e => wordS l e long) l 0 most).2.2))
        | _, _ => False
    | _ => False
  ok := by
    intro args σ k h
    split at h
    · obtain ⟨σ', l, e0, h1, h2, h3⟩ := srcAt_inv h
      split at h3
      · rename_i hbm hbl
        obtain ⟨⟨rfl, hl⟩, h4⟩ := h3
        exact EC.clB h1 (cloT_ec h2 hbm hbl hl h4)
      · exact h3.elim
    · exact h.elim
  fk := fk45
theorem cloTCon_f : cloTCon.f = 45 := rfl
theorem cloTCon_c {σ : List AObj} {k : AV → List AObj → Prop} {o bm bl : Nat} : cloTCon.c [.ref o 0, .ref bm 0, .ref bl 0] σ k = srcAt σ o fun σ' l e0 => match σ'[bm]?, σ'[bl]? with
        | some (.box 3 [.lit (.int .i64 most)]), some (.box 3 [.lit (.int .i64 long)]) => (e0 = 0 ∧ okL l) ∧ k (.sl false 1 (strs (manyS (fun l e => wordS l e long) l 0 most).1)) (σ'.set o (src (manyS (fun l e => wordS l e long) l 0 most).2.1 (manyS (fun l e => wordS l e long) l 0 most).2.2))
        | _, _ => False := rfl
noncomputable def GT : Env := envOf (P := Try.prog) zer (fun _ => false) (fun _ => false) [] [cloTCon]
theorem GT_ok : EnvOk Try.prog GT := envOk zer_ok
set_option maxHeartbeats 800000 in
theorem runT_ec {σ : List AObj} {o bm bl : Nat} {l : List Int} {e0 : Int} {most long : Int} (ho : σ[o]? = some (src l e0)) (hbm : σ[bm]? = some (.box 3 [.lit (.int .i64 most)])) (hbl : σ[bl]? = some (.box 3 [.lit (.int .i64 long)])) (hl : okL l) {k : AV → List AObj → Prop}
    (hk : k (.sl false 1 (strs (runS [] l e0 (manyS (fun l e => wordS l e long) l 0 most)).1)) (σ.set o (src (runS [] l e0 (manyS (fun l e => wordS l e long) l 0 most)).2.1 (runS [] l e0 (manyS (fun l e => wordS l e long) l 0 most)).2.2))) : EC Try.prog 44 [.ref o 0, .fn (.func 45) [] [.ref bm 0, .ref bl 0]] σ k := by
  refine ec_fin fun hbd => ?_
  have ho' := ho
  unfold src at ho'
  by_cases h0 : e0 = 0
  · subst h0
    have hf : ∀ {p}, srcAt (σ ++ [.box 26 [.sl false 1 (ints .u8 l), .lit (.int .i64 0)]]) σ.length p = p (σ ++ [.box 26 [.sl false 1 (ints .u8 l), .lit (.int .i64 0)]]) l 0 := srcAt_src (getA0 rfl)
    unfold runS at hk
    rw [if_neg (by omega)] at hk
    generalize hX : manyS (fun l e => wordS l e long) l 0 most = z at hk
    obtain ⟨x, r, e⟩ := z
    simp only at hk
    by_cases he : e = 0
    · subst he
      rw [if_neg (by simp)] at hk
      refine ec_of GT_ok mixed (fun _ => [0, 1, 4, 5, 6, 7, 16, 27]) Try.func44 rfl (by kernel_rfl) (Nat.le_of_ble_eq_true rfl) ?_
      simp only [initF_cons, initF_nil, Nat.reduceAdd]
      refine t_name fun KF => ?_
      unfold GT
      repeat' (first
        | with_reducible refine t_seq fun K => ?_
        | with_reducible refine t_block ?_
        | with_reducible refine t_scope ?_
        | with_reducible refine t_label ?_
        | with_reducible refine t_skip ?_
        | with_reducible refine t_exit ?_
        | with_reducible refine t_ret ?_
        | with_reducible refine t_k ?_
        | (with_reducible refine t_gF ?_)
        | ((first | with_reducible refine t_kE ?_ | with_reducible refine t_kD ?_ | with_reducible refine t_gS ?_ | with_reducible refine t_kL ?_ | (with_reducible refine t_kLE ?_ ?_; rotate_left) | with_reducible refine t_region fun K => ?_ | with_reducible refine t_draw (by kernel_rfl) fun K => ?_); simp only [go_sem, Int.cast_ofNat_Int, Nat.reduceEqDiff, reduceIte, Nat.reduceAdd, Nat.reduceMul, Nat.reduceLeDiff, Nat.reduceSub, Nat.reduceLT, Nat.zero_lt_succ, Int.reduceToNat, Int.reduceAdd, Int.reduceSub, Int.reduceMul, Int.reduceNeg, Int.reduceLT, Int.reduceLE, Int.reduceEq, Int.reduceBEq, Int.reduceBNe, Nat.reduceBEq, List.reduceReplicate, ho', get_app_of ho', get_app_of hbm, get_app_of hbl, cloTCon_f, cloTCon_c, hf, hl, set_app_of ho', src, hX])
        | (with_reducible exact kp_nil)
        | (with_reducible exact Kp.refl _)
        | (with_reducible exact kp_to)
        | (with_reducible refine kp_cons ?_)
        | (with_reducible refine kp_arr ?_)
        | (with_reducible refine kp_app ?_)
        | ((with_reducible refine t_cond fun A B => ?_); simp only [go_sem, Int.cast_ofNat_Int, Nat.reduceEqDiff, reduceIte, Nat.reduceAdd, Nat.reduceMul, Nat.reduceLeDiff, Nat.reduceSub, Nat.reduceLT, Nat.zero_lt_succ, Int.reduceToNat, Int.reduceAdd, Int.reduceSub, Int.reduceMul, Int.reduceNeg, Int.reduceLT, Int.reduceLE, Int.reduceEq, Int.reduceBEq, Int.reduceBNe, Nat.reduceBEq, List.reduceReplicate, ho', get_app_of ho', get_app_of hbm, get_app_of hbl, cloTCon_f, cloTCon_c, hf, hl, set_app_of ho', src, hX]; first | (with_reducible refine A.h ?_) | (with_reducible refine B.h ?_) | refine And.intro (fun hc => A.h ?_) (fun hc => B.h ?_))
        | simp only [thenQ_n, thenQ_r, thenQ_e, blockQ_n, blockQ_r, blockQ_e, scopeQ_n, scopeQ_r, scopeQ_e, Nat.reduceEqDiff, reduceIte]
        | (with_reducible refine And.intro ?_ ?_)
        | with_reducible intro vr)
      refine end_ret rfl ?_
      simp only [finE, go_sem, Int.cast_ofNat_Int, Nat.reduceEqDiff, reduceIte, Nat.reduceAdd, Nat.reduceMul, Nat.reduceLeDiff, Nat.reduceSub, Nat.reduceLT, Nat.zero_lt_succ, Int.reduceToNat, Int.reduceAdd, Int.reduceSub, Int.reduceMul, Int.reduceNeg, Int.reduceLT, Int.reduceLE, Int.reduceEq, Int.reduceBEq, Int.reduceBNe, Nat.reduceBEq, List.reduceReplicate]
      exact ⟨_, _, rfl, LeA.refl _, bds_src hbd o _ _, hk⟩
    · rw [if_pos he] at hk
      have hz : (e != 0) = true := by simpa using he
      refine ec_of GT_ok mixed (fun _ => [0, 1, 4, 5, 6, 7, 16, 27]) Try.func44 rfl (by kernel_rfl) (Nat.le_of_ble_eq_true rfl) ?_
      simp only [initF_cons, initF_nil, Nat.reduceAdd]
      refine t_name fun KF => ?_
      unfold GT
      repeat' (first
        | with_reducible refine t_seq fun K => ?_
        | with_reducible refine t_block ?_
        | with_reducible refine t_scope ?_
        | with_reducible refine t_label ?_
        | with_reducible refine t_skip ?_
        | with_reducible refine t_exit ?_
        | with_reducible refine t_ret ?_
        | with_reducible refine t_k ?_
        | (with_reducible refine t_gF ?_)
        | ((first | with_reducible refine t_kE ?_ | with_reducible refine t_kD ?_ | with_reducible refine t_gS ?_ | with_reducible refine t_kL ?_ | (with_reducible refine t_kLE ?_ ?_; rotate_left) | with_reducible refine t_region fun K => ?_ | with_reducible refine t_draw (by kernel_rfl) fun K => ?_); simp only [go_sem, Int.cast_ofNat_Int, Nat.reduceEqDiff, reduceIte, Nat.reduceAdd, Nat.reduceMul, Nat.reduceLeDiff, Nat.reduceSub, Nat.reduceLT, Nat.zero_lt_succ, Int.reduceToNat, Int.reduceAdd, Int.reduceSub, Int.reduceMul, Int.reduceNeg, Int.reduceLT, Int.reduceLE, Int.reduceEq, Int.reduceBEq, Int.reduceBNe, Nat.reduceBEq, List.reduceReplicate, ho', get_app_of ho', get_app_of hbm, get_app_of hbl, cloTCon_f, cloTCon_c, hf, hl, set_app_of ho', src, hX, hz])
        | (with_reducible exact kp_nil)
        | (with_reducible exact Kp.refl _)
        | (with_reducible exact kp_to)
        | (with_reducible refine kp_cons ?_)
        | (with_reducible refine kp_arr ?_)
        | (with_reducible refine kp_app ?_)
        | ((with_reducible refine t_cond fun A B => ?_); simp only [go_sem, Int.cast_ofNat_Int, Nat.reduceEqDiff, reduceIte, Nat.reduceAdd, Nat.reduceMul, Nat.reduceLeDiff, Nat.reduceSub, Nat.reduceLT, Nat.zero_lt_succ, Int.reduceToNat, Int.reduceAdd, Int.reduceSub, Int.reduceMul, Int.reduceNeg, Int.reduceLT, Int.reduceLE, Int.reduceEq, Int.reduceBEq, Int.reduceBNe, Nat.reduceBEq, List.reduceReplicate, ho', get_app_of ho', get_app_of hbm, get_app_of hbl, cloTCon_f, cloTCon_c, hf, hl, set_app_of ho', src, hX, hz]; first | (with_reducible refine A.h ?_) | (with_reducible refine B.h ?_) | refine And.intro (fun hc => A.h ?_) (fun hc => B.h ?_))
        | simp only [thenQ_n, thenQ_r, thenQ_e, blockQ_n, blockQ_r, blockQ_e, scopeQ_n, scopeQ_r, scopeQ_e, Nat.reduceEqDiff, reduceIte]
        | (with_reducible refine And.intro ?_ ?_)
        | with_reducible intro vr)
      refine end_ret rfl ?_
      simp only [finE, go_sem, Int.cast_ofNat_Int, Nat.reduceEqDiff, reduceIte, Nat.reduceAdd, Nat.reduceMul, Nat.reduceLeDiff, Nat.reduceSub, Nat.reduceLT, Nat.zero_lt_succ, Int.reduceToNat, Int.reduceAdd, Int.reduceSub, Int.reduceMul, Int.reduceNeg, Int.reduceLT, Int.reduceLE, Int.reduceEq, Int.reduceBEq, Int.reduceBNe, Nat.reduceBEq, List.reduceReplicate]
      exact ⟨_, _, rfl, LeA.nil false 1, bds_src hbd o _ _, hk⟩
  · have hz : (e0 != 0) = true := by simpa using h0
    unfold runS at hk
    rw [if_pos h0, set_same ho] at hk
    refine ec_of GT_ok mixed (fun _ => [0, 1, 4, 5, 6, 7, 16, 27]) Try.func44 rfl (by kernel_rfl) (Nat.le_of_ble_eq_true rfl) ?_
    simp only [initF_cons, initF_nil, Nat.reduceAdd]
    refine t_name fun KF => ?_
    unfold GT
    repeat' (first
      | with_reducible refine t_seq fun K => ?_
      | with_reducible refine t_block ?_
      | with_reducible refine t_scope ?_
      | with_reducible refine t_label ?_
      | with_reducible refine t_skip ?_
      | with_reducible refine t_exit ?_
      | with_reducible refine t_ret ?_
      | with_reducible refine t_k ?_
      | (with_reducible refine t_gF ?_)
      | ((first | with_reducible refine t_kE ?_ | with_reducible refine t_kD ?_ | with_reducible refine t_gS ?_ | with_reducible refine t_kL ?_ | (with_reducible refine t_kLE ?_ ?_; rotate_left) | with_reducible refine t_region fun K => ?_ | with_reducible refine t_draw (by kernel_rfl) fun K => ?_); simp only [go_sem, Int.cast_ofNat_Int, Nat.reduceEqDiff, reduceIte, Nat.reduceAdd, Nat.reduceMul, Nat.reduceLeDiff, Nat.reduceSub, Nat.reduceLT, Nat.zero_lt_succ, Int.reduceToNat, Int.reduceAdd, Int.reduceSub, Int.reduceMul, Int.reduceNeg, Int.reduceLT, Int.reduceLE, Int.reduceEq, Int.reduceBEq, Int.reduceBNe, Nat.reduceBEq, List.reduceReplicate, ho', get_set ho, hz])
      | (with_reducible exact kp_nil)
      | (with_reducible exact Kp.refl _)
      | (with_reducible exact kp_to)
      | (with_reducible refine kp_cons ?_)
      | (with_reducible refine kp_arr ?_)
      | (with_reducible refine kp_app ?_)
      | ((with_reducible refine t_cond fun A B => ?_); simp only [go_sem, Int.cast_ofNat_Int, Nat.reduceEqDiff, reduceIte, Nat.reduceAdd, Nat.reduceMul, Nat.reduceLeDiff, Nat.reduceSub, Nat.reduceLT, Nat.zero_lt_succ, Int.reduceToNat, Int.reduceAdd, Int.reduceSub, Int.reduceMul, Int.reduceNeg, Int.reduceLT, Int.reduceLE, Int.reduceEq, Int.reduceBEq, Int.reduceBNe, Nat.reduceBEq, List.reduceReplicate, ho', get_set ho, hz]; first | (with_reducible refine A.h ?_) | (with_reducible refine B.h ?_) | refine And.intro (fun hc => A.h ?_) (fun hc => B.h ?_))
      | simp only [thenQ_n, thenQ_r, thenQ_e, blockQ_n, blockQ_r, blockQ_e, scopeQ_n, scopeQ_r, scopeQ_e, Nat.reduceEqDiff, reduceIte]
      | (with_reducible refine And.intro ?_ ?_)
      | with_reducible intro vr)
    refine end_ret rfl ?_
    simp only [finE, go_sem, Int.cast_ofNat_Int, Nat.reduceEqDiff, reduceIte, Nat.reduceAdd, Nat.reduceMul, Nat.reduceLeDiff, Nat.reduceSub, Nat.reduceLT, Nat.zero_lt_succ, Int.reduceToNat, Int.reduceAdd, Int.reduceSub, Int.reduceMul, Int.reduceNeg, Int.reduceLT, Int.reduceLE, Int.reduceEq, Int.reduceBEq, Int.reduceBNe, Nat.reduceBEq, List.reduceReplicate]
    exact ⟨_, _, rfl, LeA.nil false 1, by simpa using hbd, by simpa [strs, ints] using hk⟩
noncomputable def runTCon : ECon Try.prog where
  f := 44
  c := fun args σ k => match args with
    | [.ref o 0, .fn (.func 45) [] [.ref bm 0, .ref bl 0]] => srcAt σ o fun σ' l e0 => match σ'[bm]?, σ'[bl]? with
        | some (.box 3 [.lit (.int .i64 most)]), some (.box 3 [.lit (.int .i64 long)]) => okL l ∧ k (.sl false 1 (strs (runS [] l e0 (manyS (fun l e => wordS l e long) l 0 most)).1)) (σ'.set o (src (runS [] l e0 (manyS (fun l e => wordS l e long) l 0 most)).2.1 (runS [] l e0 (manyS (fun l e => wordS l e long) l 0 most)).2.2))
        | _, _ => False
    | _ => False
  ok := by
    intro args σ k h
    split at h
    · obtain ⟨σ', l, e0, h1, h2, h3⟩ := srcAt_inv h
      split at h3
      · rename_i hbm hbl
        obtain ⟨hl, h4⟩ := h3
        exact EC.clB h1 (runT_ec h2 hbm hbl hl h4)
      · exact h3.elim
    · exact h.elim
  fk := fk44
theorem runTCon_f : runTCon.f = 44 := rfl
theorem runTCon_c {σ : List AObj} {k : AV → List AObj → Prop} {o bm bl : Nat} : runTCon.c [.ref o 0, .fn (.func 45) [] [.ref bm 0, .ref bl 0]] σ k = srcAt σ o fun σ' l e0 => match σ'[bm]?, σ'[bl]? with
        | some (.box 3 [.lit (.int .i64 most)]), some (.box 3 [.lit (.int .i64 long)]) => okL l ∧ k (.sl false 1 (strs (runS [] l e0 (manyS (fun l e => wordS l e long) l 0 most)).1)) (σ'.set o (src (runS [] l e0 (manyS (fun l e => wordS l e long) l 0 most)).2.1 (runS [] l e0 (manyS (fun l e => wordS l e long) l 0 most)).2.2))
        | _, _ => False := rfl
noncomputable def HT : Env := envOf (P := Try.prog) zer (fun _ => false) (fun _ => false) [] [runTCon]
theorem HT_ok : EnvOk Try.prog HT := envOk zer_ok
theorem methT_ec {σ : List AObj} {o : Nat} {l : List Int} {e0 : Int} {most long : Int} (ho : σ[o]? = some (src l e0)) (hl : okL l) {k : AV → List AObj → Prop}
    (hk : k (.sl false 1 (strs (runS [] l e0 (manyS (fun l e => wordS l e long) l 0 most)).1)) (σ.set o (src (runS [] l e0 (manyS (fun l e => wordS l e long) l 0 most)).2.1 (runS [] l e0 (manyS (fun l e => wordS l e long) l 0 most)).2.2))) : EC Try.prog 25 [.ref o 0, .lit (.int .i64 most), .lit (.int .i64 long)] σ k := by
  refine ec_fin fun hbd => ?_
  have hf : ∀ {m p}, srcAt (σ ++ m) o p = p (σ ++ m) l e0 := srcAt_src (get_app_of ho _)
  refine ec_of HT_ok mixed (fun _ => [0, 1, 2, 4, 5, 6]) Try.func25 rfl (by kernel_rfl) (Nat.le_of_ble_eq_true rfl) ?_
  simp only [initF_cons, initF_nil, Nat.reduceAdd]
  refine t_name fun KF => ?_
  unfold HT
  repeat' (first
    | with_reducible refine t_seq fun K => ?_
    | with_reducible refine t_block ?_
    | with_reducible refine t_scope ?_
    | with_reducible refine t_label ?_
    | with_reducible refine t_skip ?_
    | with_reducible refine t_exit ?_
    | with_reducible refine t_ret ?_
    | with_reducible refine t_k ?_
    | (with_reducible refine t_gF ?_)
    | ((first | with_reducible refine t_kE ?_ | with_reducible refine t_kD ?_ | with_reducible refine t_gS ?_ | with_reducible refine t_kL ?_ | (with_reducible refine t_kLE ?_ ?_; rotate_left) | with_reducible refine t_region fun K => ?_ | with_reducible refine t_draw (by kernel_rfl) fun K => ?_); simp only [go_sem, Int.cast_ofNat_Int, Nat.reduceEqDiff, reduceIte, Nat.reduceAdd, Nat.reduceMul, Nat.reduceLeDiff, Nat.reduceSub, Nat.reduceLT, Nat.zero_lt_succ, Int.reduceToNat, Int.reduceAdd, Int.reduceSub, Int.reduceMul, Int.reduceNeg, Int.reduceLT, Int.reduceLE, Int.reduceEq, Int.reduceBEq, Int.reduceBNe, Nat.reduceBEq, List.reduceReplicate, runTCon_f, runTCon_c, hf, hl, set_app_of ho])
    | (with_reducible exact kp_nil)
    | (with_reducible exact Kp.refl _)
    | (with_reducible exact kp_to)
    | (with_reducible refine kp_cons ?_)
    | (with_reducible refine kp_arr ?_)
    | (with_reducible refine kp_app ?_)
    | ((with_reducible refine t_cond fun A B => ?_); simp only [go_sem, Int.cast_ofNat_Int, Nat.reduceEqDiff, reduceIte, Nat.reduceAdd, Nat.reduceMul, Nat.reduceLeDiff, Nat.reduceSub, Nat.reduceLT, Nat.zero_lt_succ, Int.reduceToNat, Int.reduceAdd, Int.reduceSub, Int.reduceMul, Int.reduceNeg, Int.reduceLT, Int.reduceLE, Int.reduceEq, Int.reduceBEq, Int.reduceBNe, Nat.reduceBEq, List.reduceReplicate, runTCon_f, runTCon_c, hf, hl, set_app_of ho]; first | (with_reducible refine A.h ?_) | (with_reducible refine B.h ?_) | refine And.intro (fun hc => A.h ?_) (fun hc => B.h ?_))
    | simp only [thenQ_n, thenQ_r, thenQ_e, blockQ_n, blockQ_r, blockQ_e, scopeQ_n, scopeQ_r, scopeQ_e, Nat.reduceEqDiff, reduceIte]
    | (with_reducible refine And.intro ?_ ?_)
    | with_reducible intro vr)
  refine end_ret rfl ?_
  simp only [finE, go_sem, Int.cast_ofNat_Int, Nat.reduceEqDiff, reduceIte, Nat.reduceAdd, Nat.reduceMul, Nat.reduceLeDiff, Nat.reduceSub, Nat.reduceLT, Nat.zero_lt_succ, Int.reduceToNat, Int.reduceAdd, Int.reduceSub, Int.reduceMul, Int.reduceNeg, Int.reduceLT, Int.reduceLE, Int.reduceEq, Int.reduceBEq, Int.reduceBNe, Nat.reduceBEq, List.reduceReplicate]
  exact ⟨_, _, rfl, LeA.refl _, bds_src hbd o _ _, hk⟩
noncomputable def methTCon : ECon Try.prog where
  f := 25
  c := fun args σ k => match args with
    | [.ref o 0, .lit (.int .i64 most), .lit (.int .i64 long)] => srcAt σ o fun σ' l e0 => okL l ∧ k (.sl false 1 (strs (runS [] l e0 (manyS (fun l e => wordS l e long) l 0 most)).1)) (σ'.set o (src (runS [] l e0 (manyS (fun l e => wordS l e long) l 0 most)).2.1 (runS [] l e0 (manyS (fun l e => wordS l e long) l 0 most)).2.2))
    | _ => False
  ok := by
    intro args σ k h
    split at h
    · obtain ⟨σ', l, e0, h1, h2, h3, h4⟩ := srcAt_inv h
      exact EC.clB h1 (methT_ec h2 h3 h4)
    · exact h.elim
  fk := fk25
theorem methTCon_f : methTCon.f = 25 := rfl
theorem methTCon_c {σ : List AObj} {k : AV → List AObj → Prop} {o : Nat} {most long : Int} : methTCon.c [.ref o 0, .lit (.int .i64 most), .lit (.int .i64 long)] σ k = srcAt σ o fun σ' l e0 => okL l ∧ k (.sl false 1 (strs (runS [] l e0 (manyS (fun l e => wordS l e long) l 0 most)).1)) (σ'.set o (src (runS [] l e0 (manyS (fun l e => wordS l e long) l 0 most)).2.1 (runS [] l e0 (manyS (fun l e => wordS l e long) l 0 most)).2.2)) := rfl
theorem cloI_ec {σ : List AObj} {o bm bx by' : Nat} {l : List Int} {most lo hi : Int} (ho : σ[o]? = some (src l 0)) (hbm : σ[bm]? = some (.box 3 [.lit (.int .i64 most)])) (hbx : σ[bx]? = some (.box 3 [.lit (.int .i64 lo)])) (hby' : σ[by']? = some (.box 3 [.lit (.int .i64 hi)])) (hl : okL l) {k : AV → List AObj → Prop}
    (hk : k (.sl false 1 (ints .i64 (manyS (fun l e => numS l e lo hi 2) l 0 most).1)) (σ.set o (src (manyS (fun l e => numS l e lo hi 2) l 0 most).2.1 (manyS (fun l e => numS l e lo hi 2) l 0 most).2.2))) : EC Try.prog 59 [.ref o 0, .ref bm 0, .ref bx 0, .ref by' 0] σ k := by
  refine ec_fin fun hbd => ?_
  have hf : ∀ {m p}, srcAt (σ ++ m) o p = p (σ ++ m) l 0 := srcAt_src (get_app_of ho _)
  refine ec_of E32_ok mixed (fun _ => [0, 1, 2, 3, 4, 5]) Try.func59 rfl (by kernel_rfl) (Nat.le_of_ble_eq_true rfl) ?_
  simp only [initF_cons, initF_nil, Nat.reduceAdd]
  refine t_name fun KF => ?_
  unfold E32
  repeat' (first
    | with_reducible refine t_seq fun K => ?_
    | with_reducible refine t_block ?_
    | with_reducible refine t_scope ?_
    | with_reducible refine t_label ?_
    | with_reducible refine t_skip ?_
    | with_reducible refine t_exit ?_
    | with_reducible refine t_ret ?_
    | with_reducible refine t_k ?_
    | (with_reducible refine t_gF ?_)
    | ((first | with_reducible refine t_kE ?_ | with_reducible refine t_kD ?_ | with_reducible refine t_gS ?_ | with_reducible refine t_kL ?_ | (with_reducible refine t_kLE ?_ ?_; rotate_left) | with_reducible refine t_region fun K => ?_ | with_reducible refine t_draw (by kernel_rfl) fun K => ?_); simp only [go_sem, Int.cast_ofNat_Int, Nat.reduceEqDiff, reduceIte, Nat.reduceAdd, Nat.reduceMul, Nat.reduceLeDiff, Nat.reduceSub, Nat.reduceLT, Nat.zero_lt_succ, Int.reduceToNat, Int.reduceAdd, Int.reduceSub, Int.reduceMul, Int.reduceNeg, Int.reduceLT, Int.reduceLE, Int.reduceEq, Int.reduceBEq, Int.reduceBNe, Nat.reduceBEq, List.reduceReplicate, manyTCon_f, manyICon_f, manyICon_c, numCon_f, wordCon_f, hf, hl, set_app_of ho, getA0 rfl, get_app_of hbm, get_app_of hbx, get_app_of hby'])
    | (with_reducible exact kp_nil)
    | (with_reducible exact Kp.refl _)
    | (with_reducible exact kp_to)
    | (with_reducible refine kp_cons ?_)
    | (with_reducible refine kp_arr ?_)
    | (with_reducible refine kp_app ?_)
    | ((with_reducible refine t_cond fun A B => ?_); simp only [go_sem, Int.cast_ofNat_Int, Nat.reduceEqDiff, reduceIte, Nat.reduceAdd, Nat.reduceMul, Nat.reduceLeDiff, Nat.reduceSub, Nat.reduceLT, Nat.zero_lt_succ, Int.reduceToNat, Int.reduceAdd, Int.reduceSub, Int.reduceMul, Int.reduceNeg, Int.reduceLT, Int.reduceLE, Int.reduceEq, Int.reduceBEq, Int.reduceBNe, Nat.reduceBEq, List.reduceReplicate, manyTCon_f, manyICon_f, manyICon_c, numCon_f, wordCon_f, hf, hl, set_app_of ho, getA0 rfl, get_app_of hbm, get_app_of hbx, get_app_of hby']; first | (with_reducible refine A.h ?_) | (with_reducible refine B.h ?_) | refine And.intro (fun hc => A.h ?_) (fun hc => B.h ?_))
    | simp only [thenQ_n, thenQ_r, thenQ_e, blockQ_n, blockQ_r, blockQ_e, scopeQ_n, scopeQ_r, scopeQ_e, Nat.reduceEqDiff, reduceIte]
    | (with_reducible refine And.intro ?_ ?_)
    | with_reducible intro vr)
  refine end_ret rfl ?_
  simp only [finE, go_sem, Int.cast_ofNat_Int, Nat.reduceEqDiff, reduceIte, Nat.reduceAdd, Nat.reduceMul, Nat.reduceLeDiff, Nat.reduceSub, Nat.reduceLT, Nat.zero_lt_succ, Int.reduceToNat, Int.reduceAdd, Int.reduceSub, Int.reduceMul, Int.reduceNeg, Int.reduceLT, Int.reduceLE, Int.reduceEq, Int.reduceBEq, Int.reduceBNe, Nat.reduceBEq, List.reduceReplicate]
  exact ⟨_, _, rfl, LeA.refl _, bds_src hbd o _ _, hk⟩
noncomputable def cloICon : ECon Try.prog where
  f := 59
  c := fun args σ k => match args with
    | [.ref o 0, .ref bm 0, .ref bx 0, .ref by' 0] => srcAt σ o fun σ' l e0 => match σ'[bm]?, σ'[bx]?, σ'[by']? with
        | some (.box 3 [.lit (.int .i64 most)]), some (.box 3 [.lit (.int .i64 lo)]), some (.box 3 [.lit (.int .i64 hi)]) => (e0 = 0 ∧ okL l) ∧ k (.sl false 1 (ints .i64 (manyS (fun l e => numS l e lo hi 2) l 0 most).1)) (σ'.set o (src (manyS (fun l e => numS l e lo hi 2) l 0 most).2.1 (manyS (fun l e => numS l e lo hi 2) l 0 most).2.2))
        | _, _, _ => False
    | _ => False
  ok := by
    intro args σ k h
    split at h
    · obtain ⟨σ', l, e0, h1, h2, h3⟩ := srcAt_inv h
      split at h3
      · rename_i hbm hbx hby'
        obtain ⟨⟨rfl, hl⟩, h4⟩ := h3
        exact EC.clB h1 (cloI_ec h2 hbm hbx hby' hl h4)
      · exact h3.elim
    · exact h.elim
  fk := fk59
theorem cloICon_f : cloICon.f = 59 := rfl
theorem cloICon_c {σ : List AObj} {k : AV → List AObj → Prop} {o bm bx by' : Nat} : cloICon.c [.ref o 0, .ref bm 0, .ref bx 0, .ref by' 0] σ k = srcAt σ o fun σ' l e0 => match σ'[bm]?, σ'[bx]?, σ'[by']? with
        | some (.box 3 [.lit (.int .i64 most)]), some (.box 3 [.lit (.int .i64 lo)]), some (.box 3 [.lit (.int .i64 hi)]) => (e0 = 0 ∧ okL l) ∧ k (.sl false 1 (ints .i64 (manyS (fun l e => numS l e lo hi 2) l 0 most).1)) (σ'.set o (src (manyS (fun l e => numS l e lo hi 2) l 0 most).2.1 (manyS (fun l e => numS l e lo hi 2) l 0 most).2.2))
        | _, _, _ => False := rfl
noncomputable def GI : Env := envOf (P := Try.prog) zer (fun _ => false) (fun _ => false) [] [cloICon]
theorem GI_ok : EnvOk Try.prog GI := envOk zer_ok
set_option maxHeartbeats 800000 in
theorem runI_ec {σ : List AObj} {o bm bx by' : Nat} {l : List Int} {e0 : Int} {most lo hi : Int} (ho : σ[o]? = some (src l e0)) (hbm : σ[bm]? = some (.box 3 [.lit (.int .i64 most)])) (hbx : σ[bx]? = some (.box 3 [.lit (.int .i64 lo)])) (hby' : σ[by']? = some (.box 3 [.lit (.int .i64 hi)])) (hl : okL l) {k : AV → List AObj → Prop}
    (hk : k (.sl false 1 (ints .i64 (runS [] l e0 (manyS (fun l e => numS l e lo hi 2) l 0 most)).1)) (σ.set o (src (runS [] l e0 (manyS (fun l e => numS l e lo hi 2) l 0 most)).2.1 (runS [] l e0 (manyS (fun l e => numS l e lo hi 2) l 0 most)).2.2))) : EC Try.prog 58 [.ref o 0, .fn (.func 59) [] [.ref bm 0, .ref bx 0, .ref by' 0]] σ k := by
  refine ec_fin fun hbd => ?_
  have ho' := ho
  unfold src at ho'
  by_cases h0 : e0 = 0
  · subst h0
    have hf : ∀ {p}, srcAt (σ ++ [.box 26 [.sl false 1 (ints .u8 l), .lit (.int .i64 0)]]) σ.length p = p (σ ++ [.box 26 [.sl false 1 (ints .u8 l), .lit (.int .i64 0)]]) l 0 := srcAt_src (getA0 rfl)
    unfold runS at hk
    rw [if_neg (by omega)] at hk
    generalize hX : manyS (fun l e => numS l e lo hi 2) l 0 most = z at hk
    obtain ⟨x, r, e⟩ := z
    simp only at hk
    by_cases he : e = 0
    · subst he
      rw [if_neg (by simp)] at hk
      refine ec_of GI_ok mixed (fun _ => [0, 1, 4, 5, 6, 7, 16, 27]) Try.func58 rfl (by kernel_rfl) (Nat.le_of_ble_eq_true rfl) ?_
      simp only [initF_cons, initF_nil, Nat.reduceAdd]
      refine t_name fun KF => ?_
      unfold GI
      repeat' (first
        | with_reducible refine t_seq fun K => ?_
        | with_reducible refine t_block ?_
        | with_reducible refine t_scope ?_
        | with_reducible refine t_label ?_
        | with_reducible refine t_skip ?_
        | with_reducible refine t_exit ?_
        | with_reducible refine t_ret ?_
        | with_reducible refine t_k ?_
        | (with_reducible refine t_gF ?_)
        | ((first | with_reducible refine t_kE ?_ | with_reducible refine t_kD ?_ | with_reducible refine t_gS ?_ | with_reducible refine t_kL ?_ | (with_reducible refine t_kLE ?_ ?_; rotate_left) | with_reducible refine t_region fun K => ?_ | with_reducible refine t_draw (by kernel_rfl) fun K => ?_); simp only [go_sem, Int.cast_ofNat_Int, Nat.reduceEqDiff, reduceIte, Nat.reduceAdd, Nat.reduceMul, Nat.reduceLeDiff, Nat.reduceSub, Nat.reduceLT, Nat.zero_lt_succ, Int.reduceToNat, Int.reduceAdd, Int.reduceSub, Int.reduceMul, Int.reduceNeg, Int.reduceLT, Int.reduceLE, Int.reduceEq, Int.reduceBEq, Int.reduceBNe, Nat.reduceBEq, List.reduceReplicate, ho', get_app_of ho', get_app_of hbm, get_app_of hbx, get_app_of hby', cloICon_f, cloICon_c, hf, hl, set_app_of ho', src, hX])
        | (with_reducible exact kp_nil)
        | (with_reducible exact Kp.refl _)
        | (with_reducible exact kp_to)
        | (with_reducible refine kp_cons ?_)
        | (with_reducible refine kp_arr ?_)
        | (with_reducible refine kp_app ?_)
        | ((with_reducible refine t_cond fun A B => ?_); simp only [go_sem, Int.cast_ofNat_Int, Nat.reduceEqDiff, reduceIte, Nat.reduceAdd, Nat.reduceMul, Nat.reduceLeDiff, Nat.reduceSub, Nat.reduceLT, Nat.zero_lt_succ, Int.reduceToNat, Int.reduceAdd, Int.reduceSub, Int.reduceMul, Int.reduceNeg, Int.reduceLT, Int.reduceLE, Int.reduceEq, Int.reduceBEq, Int.reduceBNe, Nat.reduceBEq, List.reduceReplicate, ho', get_app_of ho', get_app_of hbm, get_app_of hbx, get_app_of hby', cloICon_f, cloICon_c, hf, hl, set_app_of ho', src, hX]; first | (with_reducible refine A.h ?_) | (with_reducible refine B.h ?_) | refine And.intro (fun hc => A.h ?_) (fun hc => B.h ?_))
        | simp only [thenQ_n, thenQ_r, thenQ_e, blockQ_n, blockQ_r, blockQ_e, scopeQ_n, scopeQ_r, scopeQ_e, Nat.reduceEqDiff, reduceIte]
        | (with_reducible refine And.intro ?_ ?_)
        | with_reducible intro vr)
      refine end_ret rfl ?_
      simp only [finE, go_sem, Int.cast_ofNat_Int, Nat.reduceEqDiff, reduceIte, Nat.reduceAdd, Nat.reduceMul, Nat.reduceLeDiff, Nat.reduceSub, Nat.reduceLT, Nat.zero_lt_succ, Int.reduceToNat, Int.reduceAdd, Int.reduceSub, Int.reduceMul, Int.reduceNeg, Int.reduceLT, Int.reduceLE, Int.reduceEq, Int.reduceBEq, Int.reduceBNe, Nat.reduceBEq, List.reduceReplicate]
      exact ⟨_, _, rfl, LeA.refl _, bds_src hbd o _ _, hk⟩
    · rw [if_pos he] at hk
      have hz : (e != 0) = true := by simpa using he
      refine ec_of GI_ok mixed (fun _ => [0, 1, 4, 5, 6, 7, 16, 27]) Try.func58 rfl (by kernel_rfl) (Nat.le_of_ble_eq_true rfl) ?_
      simp only [initF_cons, initF_nil, Nat.reduceAdd]
      refine t_name fun KF => ?_
      unfold GI
      repeat' (first
        | with_reducible refine t_seq fun K => ?_
        | with_reducible refine t_block ?_
        | with_reducible refine t_scope ?_
        | with_reducible refine t_label ?_
        | with_reducible refine t_skip ?_
        | with_reducible refine t_exit ?_
        | with_reducible refine t_ret ?_
        | with_reducible refine t_k ?_
        | (with_reducible refine t_gF ?_)
        | ((first | with_reducible refine t_kE ?_ | with_reducible refine t_kD ?_ | with_reducible refine t_gS ?_ | with_reducible refine t_kL ?_ | (with_reducible refine t_kLE ?_ ?_; rotate_left) | with_reducible refine t_region fun K => ?_ | with_reducible refine t_draw (by kernel_rfl) fun K => ?_); simp only [go_sem, Int.cast_ofNat_Int, Nat.reduceEqDiff, reduceIte, Nat.reduceAdd, Nat.reduceMul, Nat.reduceLeDiff, Nat.reduceSub, Nat.reduceLT, Nat.zero_lt_succ, Int.reduceToNat, Int.reduceAdd, Int.reduceSub, Int.reduceMul, Int.reduceNeg, Int.reduceLT, Int.reduceLE, Int.reduceEq, Int.reduceBEq, Int.reduceBNe, Nat.reduceBEq, List.reduceReplicate, ho', get_app_of ho', get_app_of hbm, get_app_of hbx, get_app_of hby', cloICon_f, cloICon_c, hf, hl, set_app_of ho', src, hX, hz])
        | (with_reducible exact kp_nil)
        | (with_reducible exact Kp.refl _)
        | (with_reducible exact kp_to)
        | (with_reducible refine kp_cons ?_)
        | (with_reducible refine kp_arr ?_)
        | (with_reducible refine kp_app ?_)
        | ((with_reducible refine t_cond fun A B => ?_); simp only [go_sem, Int.cast_ofNat_Int, Nat.reduceEqDiff, reduceIte, Nat.reduceAdd, Nat.reduceMul, Nat.reduceLeDiff, Nat.reduceSub, Nat.reduceLT, Nat.zero_lt_succ, Int.reduceToNat, Int.reduceAdd, Int.reduceSub, Int.reduceMul, Int.reduceNeg, Int.reduceLT, Int.reduceLE, Int.reduceEq, Int.reduceBEq, Int.reduceBNe, Nat.reduceBEq, List.reduceReplicate, ho', get_app_of ho', get_app_of hbm, get_app_of hbx, get_app_of hby', cloICon_f, cloICon_c, hf, hl, set_app_of ho', src, hX, hz]; first | (with_reducible refine A.h ?_) | (with_reducible refine B.h ?_) | refine And.intro (fun hc => A.h ?_) (fun hc => B.h ?_))
        | simp only [thenQ_n, thenQ_r, thenQ_e, blockQ_n, blockQ_r, blockQ_e, scopeQ_n, scopeQ_r, scopeQ_e, Nat.reduceEqDiff, reduceIte]
        | (with_reducible refine And.intro ?_ ?_)
        | with_reducible intro vr)
      refine end_ret rfl ?_
      simp only [finE, go_sem, Int.cast_ofNat_Int, Nat.reduceEqDiff, reduceIte, Nat.reduceAdd, Nat.reduceMul, Nat.reduceLeDiff, Nat.reduceSub, Nat.reduceLT, Nat.zero_lt_succ, Int.reduceToNat, Int.reduceAdd, Int.reduceSub, Int.reduceMul, Int.reduceNeg, Int.reduceLT, Int.reduceLE, Int.reduceEq, Int.reduceBEq, Int.reduceBNe, Nat.reduceBEq, List.reduceReplicate]
      exact ⟨_, _, rfl, LeA.nil false 1, bds_src hbd o _ _, hk⟩
  · have hz : (e0 != 0) = true := by simpa using h0
    unfold runS at hk
    rw [if_pos h0, set_same ho] at hk
    refine ec_of GI_ok mixed (fun _ => [0, 1, 4, 5, 6, 7, 16, 27]) Try.func58 rfl (by kernel_rfl) (Nat.le_of_ble_eq_true rfl) ?_
    simp only [initF_cons, initF_nil, Nat.reduceAdd]
    refine t_name fun KF => ?_
    unfold GI
    repeat' (first
      | with_reducible refine t_seq fun K => ?_
      | with_reducible refine t_block ?_
      | with_reducible refine t_scope ?_
      | with_reducible refine t_label ?_
      | with_reducible refine t_skip ?_
      | with_reducible refine t_exit ?_
      | with_reducible refine t_ret ?_
      | with_reducible refine t_k ?_
      | (with_reducible refine t_gF ?_)
      | ((first | with_reducible refine t_kE ?_ | with_reducible refine t_kD ?_ | with_reducible refine t_gS ?_ | with_reducible refine t_kL ?_ | (with_reducible refine t_kLE ?_ ?_; rotate_left) | with_reducible refine t_region fun K => ?_ | with_reducible refine t_draw (by kernel_rfl) fun K => ?_); simp only [go_sem, Int.cast_ofNat_Int, Nat.reduceEqDiff, reduceIte, Nat.reduceAdd, Nat.reduceMul, Nat.reduceLeDiff, Nat.reduceSub, Nat.reduceLT, Nat.zero_lt_succ, Int.reduceToNat, Int.reduceAdd, Int.reduceSub, Int.reduceMul, Int.reduceNeg, Int.reduceLT, Int.reduceLE, Int.reduceEq, Int.reduceBEq, Int.reduceBNe, Nat.reduceBEq, List.reduceReplicate, ho', get_set ho, hz])
      | (with_reducible exact kp_nil)
      | (with_reducible exact Kp.refl _)
      | (with_reducible exact kp_to)
      | (with_reducible refine kp_cons ?_)
      | (with_reducible refine kp_arr ?_)
      | (with_reducible refine kp_app ?_)
      | ((with_reducible refine t_cond fun A B => ?_); simp only [go_sem, Int.cast_ofNat_Int, Nat.reduceEqDiff, reduceIte, Nat.reduceAdd, Nat.reduceMul, Nat.reduceLeDiff, Nat.reduceSub, Nat.reduceLT, Nat.zero_lt_succ, Int.reduceToNat, Int.reduceAdd, Int.reduceSub, Int.reduceMul, Int.reduceNeg, Int.reduceLT, Int.reduceLE, Int.reduceEq, Int.reduceBEq, Int.reduceBNe, Nat.reduceBEq, List.reduceReplicate, ho', get_set ho, hz]; first | (with_reducible refine A.h ?_) | (with_reducible refine B.h ?_) | refine And.intro (fun hc => A.h ?_) (fun hc => B.h ?_))
      | simp only [thenQ_n, thenQ_r, thenQ_e, blockQ_n, blockQ_r, blockQ_e, scopeQ_n, scopeQ_r, scopeQ_e, Nat.reduceEqDiff, reduceIte]
      | (with_reducible refine And.intro ?_ ?_)
      | with_reducible intro vr)
    refine end_ret rfl ?_
    simp only [finE, go_sem, Int.cast_ofNat_Int, Nat.reduceEqDiff, reduceIte, Nat.reduceAdd, Nat.reduceMul, Nat.reduceLeDiff, Nat.reduceSub, Nat.reduceLT, Nat.zero_lt_succ, Int.reduceToNat, Int.reduceAdd, Int.reduceSub, Int.reduceMul, Int.reduceNeg, Int.reduceLT, Int.reduceLE, Int.reduceEq, Int.reduceBEq, Int.reduceBNe, Nat.reduceBEq, List.reduceReplicate]
    exact ⟨_, _, rfl, LeA.nil false 1, by simpa using hbd, by simpa [strs, ints] using hk⟩
noncomputable def runICon : ECon Try.prog where
  f := 58
  c := fun args σ k => match args with
    | [.ref o 0, .fn (.func 59) [] [.ref bm 0, .ref bx 0, .ref by' 0]] => srcAt σ o fun σ' l e0 => match σ'[bm]?, σ'[bx]?, σ'[by']? with
        | some (.box 3 [.lit (.int .i64 most)]), some (.box 3 [.lit (.int .i64 lo)]), some (.box 3 [.lit (.int .i64 hi)]) => okL l ∧ k (.sl false 1 (ints .i64 (runS [] l e0 (manyS (fun l e => numS l e lo hi 2) l 0 most)).1)) (σ'.set o (src (runS [] l e0 (manyS (fun l e => numS l e lo hi 2) l 0 most)).2.1 (runS [] l e0 (manyS (fun l e => numS l e lo hi 2) l 0 most)).2.2))
        | _, _, _ => False
    | _ => False
  ok := by
    intro args σ k h
    split at h
    · obtain ⟨σ', l, e0, h1, h2, h3⟩ := srcAt_inv h
      split at h3
      · rename_i hbm hbx hby'
        obtain ⟨hl, h4⟩ := h3
        exact EC.clB h1 (runI_ec h2 hbm hbx hby' hl h4)
      · exact h3.elim
    · exact h.elim
  fk := fk58
theorem runICon_f : runICon.f = 58 := rfl
theorem runICon_c {σ : List AObj} {k : AV → List AObj → Prop} {o bm bx by' : Nat} : runICon.c [.ref o 0, .fn (.func 59) [] [.ref bm 0, .ref bx 0, .ref by' 0]] σ k = srcAt σ o fun σ' l e0 => match σ'[bm]?, σ'[bx]?, σ'[by']? with
        | some (.box 3 [.lit (.int .i64 most)]), some (.box 3 [.lit (.int .i64 lo)]), some (.box 3 [.lit (.int .i64 hi)]) => okL l ∧ k (.sl false 1 (ints .i64 (runS [] l e0 (manyS (fun l e => numS l e lo hi 2) l 0 most)).1)) (σ'.set o (src (runS [] l e0 (manyS (fun l e => numS l e lo hi 2) l 0 most)).2.1 (runS [] l e0 (manyS (fun l e => numS l e lo hi 2) l 0 most)).2.2))
        | _, _, _ => False := rfl
noncomputable def HI : Env := envOf (P := Try.prog) zer (fun _ => false) (fun _ => false) [] [runICon]
theorem HI_ok : EnvOk Try.prog HI := envOk zer_ok
theorem methI_ec {σ : List AObj} {o : Nat} {l : List Int} {e0 : Int} {most lo hi : Int} (ho : σ[o]? = some (src l e0)) (hl : okL l) {k : AV → List AObj → Prop}
    (hk : k (.sl false 1 (ints .i64 (runS [] l e0 (manyS (fun l e => numS l e lo hi 2) l 0 most)).1)) (σ.set o (src (runS [] l e0 (manyS (fun l e => numS l e lo hi 2) l 0 most)).2.1 (runS [] l e0 (manyS (fun l e => numS l e lo hi 2) l 0 most)).2.2))) : EC Try.prog 32 [.ref o 0, .lit (.int .i64 most), .lit (.int .i64 lo), .lit (.int .i64 hi)] σ k := by
  refine ec_fin fun hbd => ?_
  have hf : ∀ {m p}, srcAt (σ ++ m) o p = p (σ ++ m) l e0 := srcAt_src (get_app_of ho _)
  refine ec_of HI_ok mixed (fun _ => [0, 1, 2, 3, 5, 6, 7, 8]) Try.func32 rfl (by kernel_rfl) (Nat.le_of_ble_eq_true rfl) ?_
  simp only [initF_cons, initF_nil, Nat.reduceAdd]
  refine t_name fun KF => ?_
  unfold HI
  repeat' (first
    | with_reducible refine t_seq fun K => ?_
    | with_reducible refine t_block ?_
    | with_reducible refine t_scope ?_
    | with_reducible refine t_label ?_
    | with_reducible refine t_skip ?_
    | with_reducible refine t_exit ?_
    | with_reducible refine t_ret ?_
    | with_reducible refine t_k ?_
    | (with_reducible refine t_gF ?_)
    | ((first | with_reducible refine t_kE ?_ | with_reducible refine t_kD ?_ | with_reducible refine t_gS ?_ | with_reducible refine t_kL ?_ | (with_reducible refine t_kLE ?_ ?_; rotate_left) | with_reducible refine t_region fun K => ?_ | with_reducible refine t_draw (by kernel_rfl) fun K => ?_); simp only [go_sem, Int.cast_ofNat_Int, Nat.reduceEqDiff, reduceIte, Nat.reduceAdd, Nat.reduceMul, Nat.reduceLeDiff, Nat.reduceSub, Nat.reduceLT, Nat.zero_lt_succ, Int.reduceToNat, Int.reduceAdd, Int.reduceSub, Int.reduceMul, Int.reduceNeg, Int.reduceLT, Int.reduceLE, Int.reduceEq, Int.reduceBEq, Int.reduceBNe, Nat.reduceBEq, List.reduceReplicate, runICon_f, runICon_c, hf, hl, set_app_of ho])
    | (with_reducible exact kp_nil)
    | (with_reducible exact Kp.refl _)
    | (with_reducible exact kp_to)
    | (with_reducible refine kp_cons ?_)
    | (with_reducible refine kp_arr ?_)
    | (with_reducible refine kp_app ?_)
    | ((with_reducible refine t_cond fun A B => ?_); simp only [go_sem, Int.cast_ofNat_Int, Nat.reduceEqDiff, reduceIte, Nat.reduceAdd, Nat.reduceMul, Nat.reduceLeDiff, Nat.reduceSub, Nat.reduceLT, Nat.zero_lt_succ, Int.reduceToNat, Int.reduceAdd, Int.reduceSub, Int.reduceMul, Int.reduceNeg, Int.reduceLT, Int.reduceLE, Int.reduceEq, Int.reduceBEq, Int.reduceBNe, Nat.reduceBEq, List.reduceReplicate, runICon_f, runICon_c, hf, hl, set_app_of ho]; first | (with_reducible refine A.h ?_) | (with_reducible refine B.h ?_) | refine And.intro (fun hc => A.h ?_) (fun hc => B.h ?_))
    | simp only [thenQ_n, thenQ_r, thenQ_e, blockQ_n, blockQ_r, blockQ_e, scopeQ_n, scopeQ_r, scopeQ_e, Nat.reduceEqDiff, reduceIte]
    | (with_reducible refine And.intro ?_ ?_)
    | with_reducible intro vr)
  refine end_ret rfl ?_
  simp only [finE, go_sem, Int.cast_ofNat_Int, Nat.reduceEqDiff, reduceIte, Nat.reduceAdd, Nat.reduceMul, Nat.reduceLeDiff, Nat.reduceSub, Nat.reduceLT, Nat.zero_lt_succ, Int.reduceToNat, Int.reduceAdd, Int.reduceSub, Int.reduceMul, Int.reduceNeg, Int.reduceLT, Int.reduceLE, Int.reduceEq, Int.reduceBEq, Int.reduceBNe, Nat.reduceBEq, List.reduceReplicate]
  exact ⟨_, _, rfl, LeA.refl _, bds_src hbd o _ _, hk⟩
noncomputable def methICon : ECon Try.prog where
  f := 32
  c := fun args σ k => match args with
    | [.ref o 0, .lit (.int .i64 most), .lit (.int .i64 lo), .lit (.int .i64 hi)] => srcAt σ o fun σ' l e0 => okL l ∧ k (.sl false 1 (ints .i64 (runS [] l e0 (manyS (fun l e => numS l e lo hi 2) l 0 most)).1)) (σ'.set o (src (runS [] l e0 (manyS (fun l e => numS l e lo hi 2) l 0 most)).2.1 (runS [] l e0 (manyS (fun l e => numS l e lo hi 2) l 0 most)).2.2))
    | _ => False
  ok := by
    intro args σ k h
    split at h
    · obtain ⟨σ', l, e0, h1, h2, h3, h4⟩ := srcAt_inv h
      exact EC.clB h1 (methI_ec h2 h3 h4)
    · exact h.elim
  fk := fk32
theorem methICon_f : methICon.f = 32 := rfl
theorem methICon_c {σ : List AObj} {k : AV → List AObj → Prop} {o : Nat} {most lo hi : Int} : methICon.c [.ref o 0, .lit (.int .i64 most), .lit (.int .i64 lo), .lit (.int .i64 hi)] σ k = srcAt σ o fun σ' l e0 => okL l ∧ k (.sl false 1 (ints .i64 (runS [] l e0 (manyS (fun l e => numS l e lo hi 2) l 0 most)).1)) (σ'.set o (src (runS [] l e0 (manyS (fun l e => numS l e lo hi 2) l 0 most)).2.1 (runS [] l e0 (manyS (fun l e => numS l e lo hi 2) l 0 most)).2.2)) := rfl
theorem cloW_ec {σ : List AObj} {o bm : Nat} {l : List Int} {most : Int} (ho : σ[o]? = some (src l 0)) (hbm : σ[bm]? = some (.box 3 [.lit (.int .i64 most)])) (hl : okL l) {k : AV → List AObj → Prop}
    (hk : k (.lit (.string (wordS l 0 most).1)) (σ.set o (src (wordS l 0 most).2.1 (wordS l 0 most).2.2))) : EC Try.prog 57 [.ref o 0, .ref bm 0] σ k := by
  have hf : ∀ {p}, srcAt σ o p = p σ l 0 := srcAt_src ho
  refine ec_of E32_ok mixed (fun _ => [0, 1, 3]) Try.func57 rfl (by kernel_rfl) (Nat.le_of_ble_eq_true rfl) ?_
  simp only [initF_cons, initF_nil, Nat.reduceAdd]
  refine t_name fun KF => ?_
  unfold E32
  repeat' (first
    | with_reducible refine t_seq fun K => ?_
    | with_reducible refine t_block ?_
    | with_reducible refine t_scope ?_
    | with_reducible refine t_label ?_
    | with_reducible refine t_skip ?_
    | with_reducible refine t_exit ?_
    | with_reducible refine t_ret ?_
    | with_reducible refine t_k ?_
    | (with_reducible refine t_gF ?_)
    | ((first | with_reducible refine t_kE ?_ | with_reducible refine t_kD ?_ | with_reducible refine t_gS ?_ | with_reducible refine t_kL ?_ | (with_reducible refine t_kLE ?_ ?_; rotate_left) | with_reducible refine t_region fun K => ?_ | with_reducible refine t_draw (by kernel_rfl) fun K => ?_); simp only [go_sem, Int.cast_ofNat_Int, Nat.reduceEqDiff, reduceIte, Nat.reduceAdd, Nat.reduceMul, Nat.reduceLeDiff, Nat.reduceSub, Nat.reduceLT, Nat.zero_lt_succ, Int.reduceToNat, Int.reduceAdd, Int.reduceSub, Int.reduceMul, Int.reduceNeg, Int.reduceLT, Int.reduceLE, Int.reduceEq, Int.reduceBEq, Int.reduceBNe, Nat.reduceBEq, List.reduceReplicate, numCon_f, numCon_c, wordCon_f, wordCon_c, hf, hl, hbm])
    | (with_reducible exact kp_nil)
    | (with_reducible exact Kp.refl _)
    | (with_reducible exact kp_to)
    | (with_reducible refine kp_cons ?_)
    | (with_reducible refine kp_arr ?_)
    | (with_reducible refine kp_app ?_)
    | ((with_reducible refine t_cond fun A B => ?_); simp only [go_sem, Int.cast_ofNat_Int, Nat.reduceEqDiff, reduceIte, Nat.reduceAdd, Nat.reduceMul, Nat.reduceLeDiff, Nat.reduceSub, Nat.reduceLT, Nat.zero_lt_succ, Int.reduceToNat, Int.reduceAdd, Int.reduceSub, Int.reduceMul, Int.reduceNeg, Int.reduceLT, Int.reduceLE, Int.reduceEq, Int.reduceBEq, Int.reduceBNe, Nat.reduceBEq, List.reduceReplicate, numCon_f, numCon_c, wordCon_f, wordCon_c, hf, hl, hbm]; first | (with_reducible refine A.h ?_) | (with_reducible refine B.h ?_) | refine And.intro (fun hc => A.h ?_) (fun hc => B.h ?_))
    | simp only [thenQ_n, thenQ_r, thenQ_e, blockQ_n, blockQ_r, blockQ_e, scopeQ_n, scopeQ_r, scopeQ_e, Nat.reduceEqDiff, reduceIte]
    | (with_reducible refine And.intro ?_ ?_)
    | with_reducible intro vr)
  exact end_ret rfl hk
noncomputable def cloWCon : ECon Try.prog where
  f := 57
  c := fun args σ k => match args with
    | [.ref o 0, .ref bm 0] => srcAt σ o fun σ' l e0 => match σ'[bm]? with
        | some (.box 3 [.lit (.int .i64 most)]) => (e0 = 0 ∧ okL l) ∧ k (.lit (.string (wordS l 0 most).1)) (σ'.set o (src (wordS l 0 most).2.1 (wordS l 0 most).2.2))
        | _ => False
    | _ => False
  ok := by
    intro args σ k h
    split at h
    · obtain ⟨σ', l, e0, h1, h2, h3⟩ := srcAt_inv h
      split at h3
      · rename_i hbm
        obtain ⟨⟨rfl, hl⟩, h4⟩ := h3
        exact EC.clB h1 (cloW_ec h2 hbm hl h4)
      · exact h3.elim
    · exact h.elim
  fk := fk57
theorem cloWCon_f : cloWCon.f = 57 := rfl
theorem cloWCon_c {σ : List AObj} {k : AV → List AObj → Prop} {o bm : Nat} : cloWCon.c [.ref o 0, .ref bm 0] σ k = srcAt σ o fun σ' l e0 => match σ'[bm]? with
        | some (.box 3 [.lit (.int .i64 most)]) => (e0 = 0 ∧ okL l) ∧ k (.lit (.string (wordS l 0 most).1)) (σ'.set o (src (wordS l 0 most).2.1 (wordS l 0 most).2.2))
        | _ => False := rfl
noncomputable def GW : Env := envOf (P := Try.prog) zer (fun _ => false) (fun _ => false) [] [cloWCon]
theorem GW_ok : EnvOk Try.prog GW := envOk zer_ok
set_option maxHeartbeats 800000 in
theorem runW_ec {σ : List AObj} {o bm : Nat} {l : List Int} {e0 : Int} {most : Int} (ho : σ[o]? = some (src l e0)) (hbm : σ[bm]? = some (.box 3 [.lit (.int .i64 most)])) (hl : okL l) {k : AV → List AObj → Prop}
    (hk : k (.lit (.string (runS (⟨#[]⟩ : ByteArray) l e0 (wordS l 0 most)).1)) (σ.set o (src (runS (⟨#[]⟩ : ByteArray) l e0 (wordS l 0 most)).2.1 (runS (⟨#[]⟩ : ByteArray) l e0 (wordS l 0 most)).2.2))) : EC Try.prog 56 [.ref o 0, .fn (.func 57) [] [.ref bm 0]] σ k := by
  refine ec_fin fun hbd => ?_
  have ho' := ho
  unfold src at ho'
  by_cases h0 : e0 = 0
  · subst h0
    have hf : ∀ {p}, srcAt (σ ++ [.box 26 [.sl false 1 (ints .u8 l), .lit (.int .i64 0)]]) σ.length p = p (σ ++ [.box 26 [.sl false 1 (ints .u8 l), .lit (.int .i64 0)]]) l 0 := srcAt_src (getA0 rfl)
    unfold runS at hk
    rw [if_neg (by omega)] at hk
    generalize hX : wordS l 0 most = z at hk
    obtain ⟨x, r, e⟩ := z
    simp only at hk
    by_cases he : e = 0
    · subst he
      rw [if_neg (by simp)] at hk
      refine ec_of GW_ok mixed (fun _ => [0, 1, 4, 5, 6, 7, 16, 27]) Try.func56 rfl (by kernel_rfl) (Nat.le_of_ble_eq_true rfl) ?_
      simp only [initF_cons, initF_nil, Nat.reduceAdd]
      refine t_name fun KF => ?_
      unfold GW
      repeat' (first
        | with_reducible refine t_seq fun K => ?_
        | with_reducible refine t_block ?_
        | with_reducible refine t_scope ?_
        | with_reducible refine t_label ?_
        | with_reducible refine t_skip ?_
        | with_reducible refine t_exit ?_
        | with_reducible refine t_ret ?_
        | with_reducible refine t_k ?_
        | (with_reducible refine t_gF ?_)
        | ((first | with_reducible refine t_kE ?_ | with_reducible refine t_kD ?_ | with_reducible refine t_gS ?_ | with_reducible refine t_kL ?_ | (with_reducible refine t_kLE ?_ ?_; rotate_left) | with_reducible refine t_region fun K => ?_ | with_reducible refine t_draw (by kernel_rfl) fun K => ?_); simp only [go_sem, Int.cast_ofNat_Int, Nat.reduceEqDiff, reduceIte, Nat.reduceAdd, Nat.reduceMul, Nat.reduceLeDiff, Nat.reduceSub, Nat.reduceLT, Nat.zero_lt_succ, Int.reduceToNat, Int.reduceAdd, Int.reduceSub, Int.reduceMul, Int.reduceNeg, Int.reduceLT, Int.reduceLE, Int.reduceEq, Int.reduceBEq, Int.reduceBNe, Nat.reduceBEq, List.reduceReplicate, ho', get_app_of ho', get_app_of hbm, cloWCon_f, cloWCon_c, hf, hl, set_app_of ho', src, hX])
        | (with_reducible exact kp_nil)
        | (with_reducible exact Kp.refl _)
        | (with_reducible exact kp_to)
        | (with_reducible refine kp_cons ?_)
        | (with_reducible refine kp_arr ?_)
        | (with_reducible refine kp_app ?_)
        | ((with_reducible refine t_cond fun A B => ?_); simp only [go_sem, Int.cast_ofNat_Int, Nat.reduceEqDiff, reduceIte, Nat.reduceAdd, Nat.reduceMul, Nat.reduceLeDiff, Nat.reduceSub, Nat.reduceLT, Nat.zero_lt_succ, Int.reduceToNat, Int.reduceAdd, Int.reduceSub, Int.reduceMul, Int.reduceNeg, Int.reduceLT, Int.reduceLE, Int.reduceEq, Int.reduceBEq, Int.reduceBNe, Nat.reduceBEq, List.reduceReplicate, ho', get_app_of ho', get_app_of hbm, cloWCon_f, cloWCon_c, hf, hl, set_app_of ho', src, hX]; first | (with_reducible refine A.h ?_) | (with_reducible refine B.h ?_) | refine And.intro (fun hc => A.h ?_) (fun hc => B.h ?_))
        | simp only [thenQ_n, thenQ_r, thenQ_e, blockQ_n, blockQ_r, blockQ_e, scopeQ_n, scopeQ_r, scopeQ_e, Nat.reduceEqDiff, reduceIte]
        | (with_reducible refine And.intro ?_ ?_)
        | with_reducible intro vr)
      refine end_ret rfl ?_
      simp only [finE, go_sem, Int.cast_ofNat_Int, Nat.reduceEqDiff, reduceIte, Nat.reduceAdd, Nat.reduceMul, Nat.reduceLeDiff, Nat.reduceSub, Nat.reduceLT, Nat.zero_lt_succ, Int.reduceToNat, Int.reduceAdd, Int.reduceSub, Int.reduceMul, Int.reduceNeg, Int.reduceLT, Int.reduceLE, Int.reduceEq, Int.reduceBEq, Int.reduceBNe, Nat.reduceBEq, List.reduceReplicate]
      exact ⟨_, _, rfl, LeA.refl _, bds_src hbd o _ _, hk⟩
    · rw [if_pos he] at hk
      have hz : (e != 0) = true := by simpa using he
      refine ec_of GW_ok mixed (fun _ => [0, 1, 4, 5, 6, 7, 16, 27]) Try.func56 rfl (by kernel_rfl) (Nat.le_of_ble_eq_true rfl) ?_
      simp only [initF_cons, initF_nil, Nat.reduceAdd]
      refine t_name fun KF => ?_
      unfold GW
      repeat' (first
        | with_reducible refine t_seq fun K => ?_
        | with_reducible refine t_block ?_
        | with_reducible refine t_scope ?_
        | with_reducible refine t_label ?_
        | with_reducible refine t_skip ?_
        | with_reducible refine t_exit ?_
        | with_reducible refine t_ret ?_
        | with_reducible refine t_k ?_
        | (with_reducible refine t_gF ?_)
        | ((first | with_reducible refine t_kE ?_ | with_reducible refine t_kD ?_ | with_reducible refine t_gS ?_ | with_reducible refine t_kL ?_ | (with_reducible refine t_kLE ?_ ?_; rotate_left) | with_reducible refine t_region fun K => ?_ | with_reducible refine t_draw (by kernel_rfl) fun K => ?_); simp only [go_sem, Int.cast_ofNat_Int, Nat.reduceEqDiff, reduceIte, Nat.reduceAdd, Nat.reduceMul, Nat.reduceLeDiff, Nat.reduceSub, Nat.reduceLT, Nat.zero_lt_succ, Int.reduceToNat, Int.reduceAdd, Int.reduceSub, Int.reduceMul, Int.reduceNeg, Int.reduceLT, Int.reduceLE, Int.reduceEq, Int.reduceBEq, Int.reduceBNe, Nat.reduceBEq, List.reduceReplicate, ho', get_app_of ho', get_app_of hbm, cloWCon_f, cloWCon_c, hf, hl, set_app_of ho', src, hX, hz])
        | (with_reducible exact kp_nil)
        | (with_reducible exact Kp.refl _)
        | (with_reducible exact kp_to)
        | (with_reducible refine kp_cons ?_)
        | (with_reducible refine kp_arr ?_)
        | (with_reducible refine kp_app ?_)
        | ((with_reducible refine t_cond fun A B => ?_); simp only [go_sem, Int.cast_ofNat_Int, Nat.reduceEqDiff, reduceIte, Nat.reduceAdd, Nat.reduceMul, Nat.reduceLeDiff, Nat.reduceSub, Nat.reduceLT, Nat.zero_lt_succ, Int.reduceToNat, Int.reduceAdd, Int.reduceSub, Int.reduceMul, Int.reduceNeg, Int.reduceLT, Int.reduceLE, Int.reduceEq, Int.reduceBEq, Int.reduceBNe, Nat.reduceBEq, List.reduceReplicate, ho', get_app_of ho', get_app_of hbm, cloWCon_f, cloWCon_c, hf, hl, set_app_of ho', src, hX, hz]; first | (with_reducible refine A.h ?_) | (with_reducible refine B.h ?_) | refine And.intro (fun hc => A.h ?_) (fun hc => B.h ?_))
        | simp only [thenQ_n, thenQ_r, thenQ_e, blockQ_n, blockQ_r, blockQ_e, scopeQ_n, scopeQ_r, scopeQ_e, Nat.reduceEqDiff, reduceIte]
        | (with_reducible refine And.intro ?_ ?_)
        | with_reducible intro vr)
      refine end_ret rfl ?_
      simp only [finE, go_sem, Int.cast_ofNat_Int, Nat.reduceEqDiff, reduceIte, Nat.reduceAdd, Nat.reduceMul, Nat.reduceLeDiff, Nat.reduceSub, Nat.reduceLT, Nat.zero_lt_succ, Int.reduceToNat, Int.reduceAdd, Int.reduceSub, Int.reduceMul, Int.reduceNeg, Int.reduceLT, Int.reduceLE, Int.reduceEq, Int.reduceBEq, Int.reduceBNe, Nat.reduceBEq, List.reduceReplicate]
      exact ⟨_, _, rfl, LeA.refl _, bds_src hbd o _ _, hk⟩
  · have hz : (e0 != 0) = true := by simpa using h0
    unfold runS at hk
    rw [if_pos h0, set_same ho] at hk
    refine ec_of GW_ok mixed (fun _ => [0, 1, 4, 5, 6, 7, 16, 27]) Try.func56 rfl (by kernel_rfl) (Nat.le_of_ble_eq_true rfl) ?_
    simp only [initF_cons, initF_nil, Nat.reduceAdd]
    refine t_name fun KF => ?_
    unfold GW
    repeat' (first
      | with_reducible refine t_seq fun K => ?_
      | with_reducible refine t_block ?_
      | with_reducible refine t_scope ?_
      | with_reducible refine t_label ?_
      | with_reducible refine t_skip ?_
      | with_reducible refine t_exit ?_
      | with_reducible refine t_ret ?_
      | with_reducible refine t_k ?_
      | (with_reducible refine t_gF ?_)
      | ((first | with_reducible refine t_kE ?_ | with_reducible refine t_kD ?_ | with_reducible refine t_gS ?_ | with_reducible refine t_kL ?_ | (with_reducible refine t_kLE ?_ ?_; rotate_left) | with_reducible refine t_region fun K => ?_ | with_reducible refine t_draw (by kernel_rfl) fun K => ?_); simp only [go_sem, Int.cast_ofNat_Int, Nat.reduceEqDiff, reduceIte, Nat.reduceAdd, Nat.reduceMul, Nat.reduceLeDiff, Nat.reduceSub, Nat.reduceLT, Nat.zero_lt_succ, Int.reduceToNat, Int.reduceAdd, Int.reduceSub, Int.reduceMul, Int.reduceNeg, Int.reduceLT, Int.reduceLE, Int.reduceEq, Int.reduceBEq, Int.reduceBNe, Nat.reduceBEq, List.reduceReplicate, ho', get_set ho, hz])
      | (with_reducible exact kp_nil)
      | (with_reducible exact Kp.refl _)
      | (with_reducible exact kp_to)
      | (with_reducible refine kp_cons ?_)
      | (with_reducible refine kp_arr ?_)
      | (with_reducible refine kp_app ?_)
      | ((with_reducible refine t_cond fun A B => ?_); simp only [go_sem, Int.cast_ofNat_Int, Nat.reduceEqDiff, reduceIte, Nat.reduceAdd, Nat.reduceMul, Nat.reduceLeDiff, Nat.reduceSub, Nat.reduceLT, Nat.zero_lt_succ, Int.reduceToNat, Int.reduceAdd, Int.reduceSub, Int.reduceMul, Int.reduceNeg, Int.reduceLT, Int.reduceLE, Int.reduceEq, Int.reduceBEq, Int.reduceBNe, Nat.reduceBEq, List.reduceReplicate, ho', get_set ho, hz]; first | (with_reducible refine A.h ?_) | (with_reducible refine B.h ?_) | refine And.intro (fun hc => A.h ?_) (fun hc => B.h ?_))
      | simp only [thenQ_n, thenQ_r, thenQ_e, blockQ_n, blockQ_r, blockQ_e, scopeQ_n, scopeQ_r, scopeQ_e, Nat.reduceEqDiff, reduceIte]
      | (with_reducible refine And.intro ?_ ?_)
      | with_reducible intro vr)
    refine end_ret rfl ?_
    simp only [finE, go_sem, Int.cast_ofNat_Int, Nat.reduceEqDiff, reduceIte, Nat.reduceAdd, Nat.reduceMul, Nat.reduceLeDiff, Nat.reduceSub, Nat.reduceLT, Nat.zero_lt_succ, Int.reduceToNat, Int.reduceAdd, Int.reduceSub, Int.reduceMul, Int.reduceNeg, Int.reduceLT, Int.reduceLE, Int.reduceEq, Int.reduceBEq, Int.reduceBNe, Nat.reduceBEq, List.reduceReplicate]
    exact ⟨_, _, rfl, LeA.refl _, by simpa using hbd, by simpa [strs, ints] using hk⟩
noncomputable def runWCon : ECon Try.prog where
  f := 56
  c := fun args σ k => match args with
    | [.ref o 0, .fn (.func 57) [] [.ref bm 0]] => srcAt σ o fun σ' l e0 => match σ'[bm]? with
        | some (.box 3 [.lit (.int .i64 most)]) => okL l ∧ k (.lit (.string (runS (⟨#[]⟩ : ByteArray) l e0 (wordS l 0 most)).1)) (σ'.set o (src (runS (⟨#[]⟩ : ByteArray) l e0 (wordS l 0 most)).2.1 (runS (⟨#[]⟩ : ByteArray) l e0 (wordS l 0 most)).2.2))
        | _ => False
    | _ => False
  ok := by
    intro args σ k h
    split at h
    · obtain ⟨σ', l, e0, h1, h2, h3⟩ := srcAt_inv h
      split at h3
      · rename_i hbm
        obtain ⟨hl, h4⟩ := h3
        exact EC.clB h1 (runW_ec h2 hbm hl h4)
      · exact h3.elim
    · exact h.elim
  fk := fk56
theorem runWCon_f : runWCon.f = 56 := rfl
theorem runWCon_c {σ : List AObj} {k : AV → List AObj → Prop} {o bm : Nat} : runWCon.c [.ref o 0, .fn (.func 57) [] [.ref bm 0]] σ k = srcAt σ o fun σ' l e0 => match σ'[bm]? with
        | some (.box 3 [.lit (.int .i64 most)]) => okL l ∧ k (.lit (.string (runS (⟨#[]⟩ : ByteArray) l e0 (wordS l 0 most)).1)) (σ'.set o (src (runS (⟨#[]⟩ : ByteArray) l e0 (wordS l 0 most)).2.1 (runS (⟨#[]⟩ : ByteArray) l e0 (wordS l 0 most)).2.2))
        | _ => False := rfl
noncomputable def HW : Env := envOf (P := Try.prog) zer (fun _ => false) (fun _ => false) [] [runWCon]
theorem HW_ok : EnvOk Try.prog HW := envOk zer_ok
theorem methW_ec {σ : List AObj} {o : Nat} {l : List Int} {e0 : Int} {most : Int} (ho : σ[o]? = some (src l e0)) (hl : okL l) {k : AV → List AObj → Prop}
    (hk : k (.lit (.string (runS (⟨#[]⟩ : ByteArray) l e0 (wordS l 0 most)).1)) (σ.set o (src (runS (⟨#[]⟩ : ByteArray) l e0 (wordS l 0 most)).2.1 (runS (⟨#[]⟩ : ByteArray) l e0 (wordS l 0 most)).2.2))) : EC Try.prog 31 [.ref o 0, .lit (.int .i64 most)] σ k := by
  refine ec_fin fun hbd => ?_
  have hf : ∀ {m p}, srcAt (σ ++ m) o p = p (σ ++ m) l e0 := srcAt_src (get_app_of ho _)
  refine ec_of HW_ok mixed (fun _ => [0, 1, 3, 4]) Try.func31 rfl (by kernel_rfl) (Nat.le_of_ble_eq_true rfl) ?_
  simp only [initF_cons, initF_nil, Nat.reduceAdd]
  refine t_name fun KF => ?_
  unfold HW
  repeat' (first
    | with_reducible refine t_seq fun K => ?_
    | with_reducible refine t_block ?_
    | with_reducible refine t_scope ?_
    | with_reducible refine t_label ?_
    | with_reducible refine t_skip ?_
    | with_reducible refine t_exit ?_
    | with_reducible refine t_ret ?_
    | with_reducible refine t_k ?_
    | (with_reducible refine t_gF ?_)
    | ((first | with_reducible refine t_kE ?_ | with_reducible refine t_kD ?_ | with_reducible refine t_gS ?_ | with_reducible refine t_kL ?_ | (with_reducible refine t_kLE ?_ ?_; rotate_left) | with_reducible refine t_region fun K => ?_ | with_reducible refine t_draw (by kernel_rfl) fun K => ?_); simp only [go_sem, Int.cast_ofNat_Int, Nat.reduceEqDiff, reduceIte, Nat.reduceAdd, Nat.reduceMul, Nat.reduceLeDiff, Nat.reduceSub, Nat.reduceLT, Nat.zero_lt_succ, Int.reduceToNat, Int.reduceAdd, Int.reduceSub, Int.reduceMul, Int.reduceNeg, Int.reduceLT, Int.reduceLE, Int.reduceEq, Int.reduceBEq, Int.reduceBNe, Nat.reduceBEq, List.reduceReplicate, runWCon_f, runWCon_c, hf, hl, set_app_of ho])
    | (with_reducible exact kp_nil)
    | (with_reducible exact Kp.refl _)
    | (with_reducible exact kp_to)
    | (with_reducible refine kp_cons ?_)
    | (with_reducible refine kp_arr ?_)
    | (with_reducible refine kp_app ?_)
    | ((with_reducible refine t_cond fun A B => ?_); simp only [go_sem, Int.cast_ofNat_Int, Nat.reduceEqDiff, reduceIte, Nat.reduceAdd, Nat.reduceMul, Nat.reduceLeDiff, Nat.reduceSub, Nat.reduceLT, Nat.zero_lt_succ, Int.reduceToNat, Int.reduceAdd, Int.reduceSub, Int.reduceMul, Int.reduceNeg, Int.reduceLT, Int.reduceLE, Int.reduceEq, Int.reduceBEq, Int.reduceBNe, Nat.reduceBEq, List.reduceReplicate, runWCon_f, runWCon_c, hf, hl, set_app_of ho]; first | (with_reducible refine A.h ?_) | (with_reducible refine B.h ?_) | refine And.intro (fun hc => A.h ?_) (fun hc => B.h ?_))
    | simp only [thenQ_n, thenQ_r, thenQ_e, blockQ_n, blockQ_r, blockQ_e, scopeQ_n, scopeQ_r, scopeQ_e, Nat.reduceEqDiff, reduceIte]
    | (with_reducible refine And.intro ?_ ?_)
    | with_reducible intro vr)
  refine end_ret rfl ?_
  simp only [finE, go_sem, Int.cast_ofNat_Int, Nat.reduceEqDiff, reduceIte, Nat.reduceAdd, Nat.reduceMul, Nat.reduceLeDiff, Nat.reduceSub, Nat.reduceLT, Nat.zero_lt_succ, Int.reduceToNat, Int.reduceAdd, Int.reduceSub, Int.reduceMul, Int.reduceNeg, Int.reduceLT, Int.reduceLE, Int.reduceEq, Int.reduceBEq, Int.reduceBNe, Nat.reduceBEq, List.reduceReplicate]
  exact ⟨_, _, rfl, LeA.refl _, bds_src hbd o _ _, hk⟩
noncomputable def methWCon : ECon Try.prog where
  f := 31
  c := fun args σ k => match args with
    | [.ref o 0, .lit (.int .i64 most)] => srcAt σ o fun σ' l e0 => okL l ∧ k (.lit (.string (runS (⟨#[]⟩ : ByteArray) l e0 (wordS l 0 most)).1)) (σ'.set o (src (runS (⟨#[]⟩ : ByteArray) l e0 (wordS l 0 most)).2.1 (runS (⟨#[]⟩ : ByteArray) l e0 (wordS l 0 most)).2.2))
    | _ => False
  ok := by
    intro args σ k h
    split at h
    · obtain ⟨σ', l, e0, h1, h2, h3, h4⟩ := srcAt_inv h
      exact EC.clB h1 (methW_ec h2 h3 h4)
    · exact h.elim
  fk := fk31
theorem methWCon_f : methWCon.f = 31 := rfl
theorem methWCon_c {σ : List AObj} {k : AV → List AObj → Prop} {o : Nat} {most : Int} : methWCon.c [.ref o 0, .lit (.int .i64 most)] σ k = srcAt σ o fun σ' l e0 => okL l ∧ k (.lit (.string (runS (⟨#[]⟩ : ByteArray) l e0 (wordS l 0 most)).1)) (σ'.set o (src (runS (⟨#[]⟩ : ByteArray) l e0 (wordS l 0 most)).2.1 (runS (⟨#[]⟩ : ByteArray) l e0 (wordS l 0 most)).2.2)) := rfl
theorem cloB_ec {σ : List AObj} {o : Nat} {l : List Int} (ho : σ[o]? = some (src l 0))  (hl : okL l) {k : AV → List AObj → Prop}
    (hk : k (.lit (.bool (boolS l).1)) (σ.set o (src (boolS l).2.1 (boolS l).2.2))) : EC Try.prog 55 [.ref o 0] σ k := by
  have hf : ∀ {p}, srcAt σ o p = p σ l 0 := srcAt_src ho
  refine ec_of E32_ok mixed (fun _ => [0, 2]) Try.func55 rfl (by kernel_rfl) (Nat.le_of_ble_eq_true rfl) ?_
  simp only [initF_cons, initF_nil, Nat.reduceAdd]
  refine t_name fun KF => ?_
  unfold E32
  repeat' (first
    | with_reducible refine t_seq fun K => ?_
    | with_reducible refine t_block ?_
    | with_reducible refine t_scope ?_
    | with_reducible refine t_label ?_
    | with_reducible refine t_skip ?_
    | with_reducible refine t_exit ?_
    | with_reducible refine t_ret ?_
    | with_reducible refine t_k ?_
    | (with_reducible refine t_gF ?_)
    | ((first | with_reducible refine t_kE ?_ | with_reducible refine t_kD ?_ | with_reducible refine t_gS ?_ | with_reducible refine t_kL ?_ | (with_reducible refine t_kLE ?_ ?_; rotate_left) | with_reducible refine t_region fun K => ?_ | with_reducible refine t_draw (by kernel_rfl) fun K => ?_); simp only [go_sem, Int.cast_ofNat_Int, Nat.reduceEqDiff, reduceIte, Nat.reduceAdd, Nat.reduceMul, Nat.reduceLeDiff, Nat.reduceSub, Nat.reduceLT, Nat.zero_lt_succ, Int.reduceToNat, Int.reduceAdd, Int.reduceSub, Int.reduceMul, Int.reduceNeg, Int.reduceLT, Int.reduceLE, Int.reduceEq, Int.reduceBEq, Int.reduceBNe, Nat.reduceBEq, List.reduceReplicate, numCon_f, numCon_c, wordCon_f, wordCon_c, hf, hl])
    | (with_reducible exact kp_nil)
    | (with_reducible exact Kp.refl _)
    | (with_reducible exact kp_to)
    | (with_reducible refine kp_cons ?_)
    | (with_reducible refine kp_arr ?_)
    | (with_reducible refine kp_app ?_)
    | ((with_reducible refine t_cond fun A B => ?_); simp only [go_sem, Int.cast_ofNat_Int, Nat.reduceEqDiff, reduceIte, Nat.reduceAdd, Nat.reduceMul, Nat.reduceLeDiff, Nat.reduceSub, Nat.reduceLT, Nat.zero_lt_succ, Int.reduceToNat, Int.reduceAdd, Int.reduceSub, Int.reduceMul, Int.reduceNeg, Int.reduceLT, Int.reduceLE, Int.reduceEq, Int.reduceBEq, Int.reduceBNe, Nat.reduceBEq, List.reduceReplicate, numCon_f, numCon_c, wordCon_f, wordCon_c, hf, hl]; first | (with_reducible refine A.h ?_) | (with_reducible refine B.h ?_) | refine And.intro (fun hc => A.h ?_) (fun hc => B.h ?_))
    | simp only [thenQ_n, thenQ_r, thenQ_e, blockQ_n, blockQ_r, blockQ_e, scopeQ_n, scopeQ_r, scopeQ_e, Nat.reduceEqDiff, reduceIte]
    | (with_reducible refine And.intro ?_ ?_)
    | with_reducible intro vr)
  exact end_ret rfl hk
noncomputable def cloBCon : ECon Try.prog where
  f := 55
  c := fun args σ k => match args with
    | [.ref o 0] => srcAt σ o fun σ' l e0 => (e0 = 0 ∧ okL l) ∧ k (.lit (.bool (boolS l).1)) (σ'.set o (src (boolS l).2.1 (boolS l).2.2))
    | _ => False
  ok := by
    intro args σ k h
    split at h
    · obtain ⟨σ', l, e0, h1, h2, h3⟩ := srcAt_inv h
      obtain ⟨⟨rfl, hl⟩, h4⟩ := h3
      exact EC.clB h1 (cloB_ec h2  hl h4)
    · exact h.elim
  fk := fk55
theorem cloBCon_f : cloBCon.f = 55 := rfl
theorem cloBCon_c {σ : List AObj} {k : AV → List AObj → Prop} {o : Nat} : cloBCon.c [.ref o 0] σ k = srcAt σ o fun σ' l e0 => (e0 = 0 ∧ okL l) ∧ k (.lit (.bool (boolS l).1)) (σ'.set o (src (boolS l).2.1 (boolS l).2.2)) := rfl
noncomputable def GB : Env := envOf (P := Try.prog) zer (fun _ => false) (fun _ => false) [] [cloBCon]
theorem GB_ok : EnvOk Try.prog GB := envOk zer_ok
set_option maxHeartbeats 800000 in
theorem runB_ec {σ : List AObj} {o : Nat} {l : List Int} {e0 : Int} (ho : σ[o]? = some (src l e0))  (hl : okL l) {k : AV → List AObj → Prop}
    (hk : k (.lit (.bool (runS (false : Bool) l e0 (boolS l)).1)) (σ.set o (src (runS (false : Bool) l e0 (boolS l)).2.1 (runS (false : Bool) l e0 (boolS l)).2.2))) : EC Try.prog 54 [.ref o 0, .fn (.func 55) [] []] σ k := by
  refine ec_fin fun hbd => ?_
  have ho' := ho
  unfold src at ho'
  by_cases h0 : e0 = 0
  · subst h0
    have hf : ∀ {p}, srcAt (σ ++ [.box 26 [.sl false 1 (ints .u8 l), .lit (.int .i64 0)]]) σ.length p = p (σ ++ [.box 26 [.sl false 1 (ints .u8 l), .lit (.int .i64 0)]]) l 0 := srcAt_src (getA0 rfl)
    unfold runS at hk
    rw [if_neg (by omega)] at hk
    generalize hX : boolS l = z at hk
    obtain ⟨x, r, e⟩ := z
    simp only at hk
    by_cases he : e = 0
    · subst he
      rw [if_neg (by simp)] at hk
      refine ec_of GB_ok mixed (fun _ => [0, 1, 4, 5, 6, 7, 16, 27]) Try.func54 rfl (by kernel_rfl) (Nat.le_of_ble_eq_true rfl) ?_
      simp only [initF_cons, initF_nil, Nat.reduceAdd]
      refine t_name fun KF => ?_
      unfold GB
      repeat' (first
        | with_reducible refine t_seq fun K => ?_
        | with_reducible refine t_block ?_
        | with_reducible refine t_scope ?_
        | with_reducible refine t_label ?_
        | with_reducible refine t_skip ?_
        | with_reducible refine t_exit ?_
        | with_reducible refine t_ret ?_
        | with_reducible refine t_k ?_
        | (with_reducible refine t_gF ?_)
        | ((first | with_reducible refine t_kE ?_ | with_reducible refine t_kD ?_ | with_reducible refine t_gS ?_ | with_reducible refine t_kL ?_ | (with_reducible refine t_kLE ?_ ?_; rotate_left) | with_reducible refine t_region fun K => ?_ | with_reducible refine t_draw (by kernel_rfl) fun K => ?_); simp only [go_sem, Int.cast_ofNat_Int, Nat.reduceEqDiff, reduceIte, Nat.reduceAdd, Nat.reduceMul, Nat.reduceLeDiff, Nat.reduceSub, Nat.reduceLT, Nat.zero_lt_succ, Int.reduceToNat, Int.reduceAdd, Int.reduceSub, Int.reduceMul, Int.reduceNeg, Int.reduceLT, Int.reduceLE, Int.reduceEq, Int.reduceBEq, Int.reduceBNe, Nat.reduceBEq, List.reduceReplicate, ho', get_app_of ho', cloBCon_f, cloBCon_c, hf, hl, set_app_of ho', src, hX])
        | (with_reducible exact kp_nil)
        | (with_reducible exact Kp.refl _)
        | (with_reducible exact kp_to)
        | (with_reducible refine kp_cons ?_)
        | (with_reducible refine kp_arr ?_)
        | (with_reducible refine kp_app ?_)
        | ((with_reducible refine t_cond fun A B => ?_); simp only [go_sem, Int.cast_ofNat_Int, Nat.reduceEqDiff, reduceIte, Nat.reduceAdd, Nat.reduceMul, Nat.reduceLeDiff, Nat.reduceSub, Nat.reduceLT, Nat.zero_lt_succ, Int.reduceToNat, Int.reduceAdd, Int.reduceSub, Int.reduceMul, Int.reduceNeg, Int.reduceLT, Int.reduceLE, Int.reduceEq, Int.reduceBEq, Int.reduceBNe, Nat.reduceBEq, List.reduceReplicate, ho', get_app_of ho', cloBCon_f, cloBCon_c, hf, hl, set_app_of ho', src, hX]; first | (with_reducible refine A.h ?_) | (with_reducible refine B.h ?_) | refine And.intro (fun hc => A.h ?_) (fun hc => B.h ?_))
        | simp only [thenQ_n, thenQ_r, thenQ_e, blockQ_n, blockQ_r, blockQ_e, scopeQ_n, scopeQ_r, scopeQ_e, Nat.reduceEqDiff, reduceIte]
        | (with_reducible refine And.intro ?_ ?_)
        | with_reducible intro vr)
      refine end_ret rfl ?_
      simp only [finE, go_sem, Int.cast_ofNat_Int, Nat.reduceEqDiff, reduceIte, Nat.reduceAdd, Nat.reduceMul, Nat.reduceLeDiff, Nat.reduceSub, Nat.reduceLT, Nat.zero_lt_succ, Int.reduceToNat, Int.reduceAdd, Int.reduceSub, Int.reduceMul, Int.reduceNeg, Int.reduceLT, Int.reduceLE, Int.reduceEq, Int.reduceBEq, Int.reduceBNe, Nat.reduceBEq, List.reduceReplicate]
      exact ⟨_, _, rfl, LeA.refl _, bds_src hbd o _ _, hk⟩
    · rw [if_pos he] at hk
      have hz : (e != 0) = true := by simpa using he
      refine ec_of GB_ok mixed (fun _ => [0, 1, 4, 5, 6, 7, 16, 27]) Try.func54 rfl (by kernel_rfl) (Nat.le_of_ble_eq_true rfl) ?_
      simp only [initF_cons, initF_nil, Nat.reduceAdd]
      refine t_name fun KF => ?_
      unfold GB
      repeat' (first
        | with_reducible refine t_seq fun K => ?_
        | with_reducible refine t_block ?_
        | with_reducible refine t_scope ?_
        | with_reducible refine t_label ?_
        | with_reducible refine t_skip ?_
        | with_reducible refine t_exit ?_
        | with_reducible refine t_ret ?_
        | with_reducible refine t_k ?_
        | (with_reducible refine t_gF ?_)
        | ((first | with_reducible refine t_kE ?_ | with_reducible refine t_kD ?_ | with_reducible refine t_gS ?_ | with_reducible refine t_kL ?_ | (with_reducible refine t_kLE ?_ ?_; rotate_left) | with_reducible refine t_region fun K => ?_ | with_reducible refine t_draw (by kernel_rfl) fun K => ?_); simp only [go_sem, Int.cast_ofNat_Int, Nat.reduceEqDiff, reduceIte, Nat.reduceAdd, Nat.reduceMul, Nat.reduceLeDiff, Nat.reduceSub, Nat.reduceLT, Nat.zero_lt_succ, Int.reduceToNat, Int.reduceAdd, Int.reduceSub, Int.reduceMul, Int.reduceNeg, Int.reduceLT, Int.reduceLE, Int.reduceEq, Int.reduceBEq, Int.reduceBNe, Nat.reduceBEq, List.reduceReplicate, ho', get_app_of ho', cloBCon_f, cloBCon_c, hf, hl, set_app_of ho', src, hX, hz])
        | (with_reducible exact kp_nil)
        | (with_reducible exact Kp.refl _)
        | (with_reducible exact kp_to)
        | (with_reducible refine kp_cons ?_)
        | (with_reducible refine kp_arr ?_)
        | (with_reducible refine kp_app ?_)
        | ((with_reducible refine t_cond fun A B => ?_); simp only [go_sem, Int.cast_ofNat_Int, Nat.reduceEqDiff, reduceIte, Nat.reduceAdd, Nat.reduceMul, Nat.reduceLeDiff, Nat.reduceSub, Nat.reduceLT, Nat.zero_lt_succ, Int.reduceToNat, Int.reduceAdd, Int.reduceSub, Int.reduceMul, Int.reduceNeg, Int.reduceLT, Int.reduceLE, Int.reduceEq, Int.reduceBEq, Int.reduceBNe, Nat.reduceBEq, List.reduceReplicate, ho', get_app_of ho', cloBCon_f, cloBCon_c, hf, hl, set_app_of ho', src, hX, hz]; first | (with_reducible refine A.h ?_) | (with_reducible refine B.h ?_) | refine And.intro (fun hc => A.h ?_) (fun hc => B.h ?_))
        | simp only [thenQ_n, thenQ_r, thenQ_e, blockQ_n, blockQ_r, blockQ_e, scopeQ_n, scopeQ_r, scopeQ_e, Nat.reduceEqDiff, reduceIte]
        | (with_reducible refine And.intro ?_ ?_)
        | with_reducible intro vr)
      refine end_ret rfl ?_
      simp only [finE, go_sem, Int.cast_ofNat_Int, Nat.reduceEqDiff, reduceIte, Nat.reduceAdd, Nat.reduceMul, Nat.reduceLeDiff, Nat.reduceSub, Nat.reduceLT, Nat.zero_lt_succ, Int.reduceToNat, Int.reduceAdd, Int.reduceSub, Int.reduceMul, Int.reduceNeg, Int.reduceLT, Int.reduceLE, Int.reduceEq, Int.reduceBEq, Int.reduceBNe, Nat.reduceBEq, List.reduceReplicate]
      exact ⟨_, _, rfl, LeA.refl _, bds_src hbd o _ _, hk⟩
  · have hz : (e0 != 0) = true := by simpa using h0
    unfold runS at hk
    rw [if_pos h0, set_same ho] at hk
    refine ec_of GB_ok mixed (fun _ => [0, 1, 4, 5, 6, 7, 16, 27]) Try.func54 rfl (by kernel_rfl) (Nat.le_of_ble_eq_true rfl) ?_
    simp only [initF_cons, initF_nil, Nat.reduceAdd]
    refine t_name fun KF => ?_
    unfold GB
    repeat' (first
      | with_reducible refine t_seq fun K => ?_
      | with_reducible refine t_block ?_
      | with_reducible refine t_scope ?_
      | with_reducible refine t_label ?_
      | with_reducible refine t_skip ?_
      | with_reducible refine t_exit ?_
      | with_reducible refine t_ret ?_
      | with_reducible refine t_k ?_
      | (with_reducible refine t_gF ?_)
      | ((first | with_reducible refine t_kE ?_ | with_reducible refine t_kD ?_ | with_reducible refine t_gS ?_ | with_reducible refine t_kL ?_ | (with_reducible refine t_kLE ?_ ?_; rotate_left) | with_reducible refine t_region fun K => ?_ | with_reducible refine t_draw (by kernel_rfl) fun K => ?_); simp only [go_sem, Int.cast_ofNat_Int, Nat.reduceEqDiff, reduceIte, Nat.reduceAdd, Nat.reduceMul, Nat.reduceLeDiff, Nat.reduceSub, Nat.reduceLT, Nat.zero_lt_succ, Int.reduceToNat, Int.reduceAdd, Int.reduceSub, Int.reduceMul, Int.reduceNeg, Int.reduceLT, Int.reduceLE, Int.reduceEq, Int.reduceBEq, Int.reduceBNe, Nat.reduceBEq, List.reduceReplicate, ho', get_set ho, hz])
      | (with_reducible exact kp_nil)
      | (with_reducible exact Kp.refl _)
      | (with_reducible exact kp_to)
      | (with_reducible refine kp_cons ?_)
      | (with_reducible refine kp_arr ?_)
      | (with_reducible refine kp_app ?_)
      | ((with_reducible refine t_cond fun A B => ?_); simp only [go_sem, Int.cast_ofNat_Int, Nat.reduceEqDiff, reduceIte, Nat.reduceAdd, Nat.reduceMul, Nat.reduceLeDiff, Nat.reduceSub, Nat.reduceLT, Nat.zero_lt_succ, Int.reduceToNat, Int.reduceAdd, Int.reduceSub, Int.reduceMul, Int.reduceNeg, Int.reduceLT, Int.reduceLE, Int.reduceEq, Int.reduceBEq, Int.reduceBNe, Nat.reduceBEq, List.reduceReplicate, ho', get_set ho, hz]; first | (with_reducible refine A.h ?_) | (with_reducible refine B.h ?_) | refine And.intro (fun hc => A.h ?_) (fun hc => B.h ?_))
      | simp only [thenQ_n, thenQ_r, thenQ_e, blockQ_n, blockQ_r, blockQ_e, scopeQ_n, scopeQ_r, scopeQ_e, Nat.reduceEqDiff, reduceIte]
      | (with_reducible refine And.intro ?_ ?_)
      | with_reducible intro vr)
    refine end_ret rfl ?_
    simp only [finE, go_sem, Int.cast_ofNat_Int, Nat.reduceEqDiff, reduceIte, Nat.reduceAdd, Nat.reduceMul, Nat.reduceLeDiff, Nat.reduceSub, Nat.reduceLT, Nat.zero_lt_succ, Int.reduceToNat, Int.reduceAdd, Int.reduceSub, Int.reduceMul, Int.reduceNeg, Int.reduceLT, Int.reduceLE, Int.reduceEq, Int.reduceBEq, Int.reduceBNe, Nat.reduceBEq, List.reduceReplicate]
    exact ⟨_, _, rfl, LeA.refl _, by simpa using hbd, by simpa [strs, ints] using hk⟩
noncomputable def runBCon : ECon Try.prog where
  f := 54
  c := fun args σ k => match args with
    | [.ref o 0, .fn (.func 55) [] []] => srcAt σ o fun σ' l e0 => okL l ∧ k (.lit (.bool (runS (false : Bool) l e0 (boolS l)).1)) (σ'.set o (src (runS (false : Bool) l e0 (boolS l)).2.1 (runS (false : Bool) l e0 (boolS l)).2.2))
    | _ => False
  ok := by
    intro args σ k h
    split at h
    · obtain ⟨σ', l, e0, h1, h2, h3⟩ := srcAt_inv h
      obtain ⟨hl, h4⟩ := h3
      exact EC.clB h1 (runB_ec h2  hl h4)
    · exact h.elim
  fk := fk54
theorem runBCon_f : runBCon.f = 54 := rfl
theorem runBCon_c {σ : List AObj} {k : AV → List AObj → Prop} {o : Nat} : runBCon.c [.ref o 0, .fn (.func 55) [] []] σ k = srcAt σ o fun σ' l e0 => okL l ∧ k (.lit (.bool (runS (false : Bool) l e0 (boolS l)).1)) (σ'.set o (src (runS (false : Bool) l e0 (boolS l)).2.1 (runS (false : Bool) l e0 (boolS l)).2.2)) := rfl
noncomputable def HB : Env := envOf (P := Try.prog) zer (fun _ => false) (fun _ => false) [] [runBCon]
theorem HB_ok : EnvOk Try.prog HB := envOk zer_ok
theorem methB_ec {σ : List AObj} {o : Nat} {l : List Int} {e0 : Int} (ho : σ[o]? = some (src l e0)) (hl : okL l) {k : AV → List AObj → Prop}
    (hk : k (.lit (.bool (runS (false : Bool) l e0 (boolS l)).1)) (σ.set o (src (runS (false : Bool) l e0 (boolS l)).2.1 (runS (false : Bool) l e0 (boolS l)).2.2))) : EC Try.prog 30 [.ref o 0] σ k := by
  have hf0 : ∀ {p}, srcAt σ o p = p σ l e0 := srcAt_src ho
  refine ec_of HB_ok mixed (fun _ => [0, 2]) Try.func30 rfl (by kernel_rfl) (Nat.le_of_ble_eq_true rfl) ?_
  simp only [initF_cons, initF_nil, Nat.reduceAdd]
  refine t_name fun KF => ?_
  unfold HB
  repeat' (first
    | with_reducible refine t_seq fun K => ?_
    | with_reducible refine t_block ?_
    | with_reducible refine t_scope ?_
    | with_reducible refine t_label ?_
    | with_reducible refine t_skip ?_
    | with_reducible refine t_exit ?_
    | with_reducible refine t_ret ?_
    | with_reducible refine t_k ?_
    | (with_reducible refine t_gF ?_)
    | ((first | with_reducible refine t_kE ?_ | with_reducible refine t_kD ?_ | with_reducible refine t_gS ?_ | with_reducible refine t_kL ?_ | (with_reducible refine t_kLE ?_ ?_; rotate_left) | with_reducible refine t_region fun K => ?_ | with_reducible refine t_draw (by kernel_rfl) fun K => ?_); simp only [go_sem, Int.cast_ofNat_Int, Nat.reduceEqDiff, reduceIte, Nat.reduceAdd, Nat.reduceMul, Nat.reduceLeDiff, Nat.reduceSub, Nat.reduceLT, Nat.zero_lt_succ, Int.reduceToNat, Int.reduceAdd, Int.reduceSub, Int.reduceMul, Int.reduceNeg, Int.reduceLT, Int.reduceLE, Int.reduceEq, Int.reduceBEq, Int.reduceBNe, Nat.reduceBEq, List.reduceReplicate, runBCon_f, runBCon_c, hf0, hl])
    | (with_reducible exact kp_nil)
    | (with_reducible exact Kp.refl _)
    | (with_reducible exact kp_to)
    | (with_reducible refine kp_cons ?_)
    | (with_reducible refine kp_arr ?_)
    | (with_reducible refine kp_app ?_)
    | ((with_reducible refine t_cond fun A B => ?_); simp only [go_sem, Int.cast_ofNat_Int, Nat.reduceEqDiff, reduceIte, Nat.reduceAdd, Nat.reduceMul, Nat.reduceLeDiff, Nat.reduceSub, Nat.reduceLT, Nat.zero_lt_succ, Int.reduceToNat, Int.reduceAdd, Int.reduceSub, Int.reduceMul, Int.reduceNeg, Int.reduceLT, Int.reduceLE, Int.reduceEq, Int.reduceBEq, Int.reduceBNe, Nat.reduceBEq, List.reduceReplicate, runBCon_f, runBCon_c, hf0, hl]; first | (with_reducible refine A.h ?_) | (with_reducible refine B.h ?_) | refine And.intro (fun hc => A.h ?_) (fun hc => B.h ?_))
    | simp only [thenQ_n, thenQ_r, thenQ_e, blockQ_n, blockQ_r, blockQ_e, scopeQ_n, scopeQ_r, scopeQ_e, Nat.reduceEqDiff, reduceIte]
    | (with_reducible refine And.intro ?_ ?_)
    | with_reducible intro vr)
  exact end_ret rfl hk
noncomputable def methBCon : ECon Try.prog where
  f := 30
  c := fun args σ k => match args with
    | [.ref o 0] => srcAt σ o fun σ' l e0 => okL l ∧ k (.lit (.bool (runS (false : Bool) l e0 (boolS l)).1)) (σ'.set o (src (runS (false : Bool) l e0 (boolS l)).2.1 (runS (false : Bool) l e0 (boolS l)).2.2))
    | _ => False
  ok := by
    intro args σ k h
    split at h
    · obtain ⟨σ', l, e0, h1, h2, h3, h4⟩ := srcAt_inv h
      exact EC.clB h1 (methB_ec h2 h3 h4)
    · exact h.elim
  fk := fk30
theorem methBCon_f : methBCon.f = 30 := rfl
theorem methBCon_c {σ : List AObj} {k : AV → List AObj → Prop} {o : Nat} : methBCon.c [.ref o 0] σ k = srcAt σ o fun σ' l e0 => okL l ∧ k (.lit (.bool (runS (false : Bool) l e0 (boolS l)).1)) (σ'.set o (src (runS (false : Bool) l e0 (boolS l)).2.1 (runS (false : Bool) l e0 (boolS l)).2.2)) := rfl
end Go.Proofs.Ytgkjocnfdllieaa

/- What was written is read again; what ends early is not: plain. -/
namespace Go.Proofs.Ytgkjocnfdllieaa
open Go Go.Fw

theorem bytesOf_bytesI (s : ByteArray) : bytesOf (bytesI s) = s := by
  apply ByteArray.ext
  apply Array.ext'
  simp [bytesOf, bytesI, Function.comp_def]
theorem inI64_nat {n : Nat} (h : n ≤ 9223372036854775807) : inI64 (n : Int) := ⟨by omega, by omega⟩
theorem num_enc {n lo hi e : Int} (hn : inI64 n) (h1 : lo ≤ n) (h2 : n ≤ hi) (r : List Int) : numS (enc n ++ r) 0 lo hi e = (n, r, 0) := by
  unfold numS
  rw [if_neg (by omega), enc_dec hn]
  simp only
  rw [if_neg (by omega)]
theorem num_enc_out {n lo hi e : Int} (hn : inI64 n) (h : n < lo ∨ hi < n) (r : List Int) : numS (enc n ++ r) 0 lo hi e = (0, enc n ++ r, e) := by
  unfold numS
  rw [if_neg (by omega), enc_dec hn]
  simp only
  rw [if_pos h]
theorem word_enc {s : ByteArray} {most : Int} (h : (s.size : Int) ≤ most) (hs : s.size ≤ 9223372036854775807) (r : List Int) : wordS (encT s ++ r) 0 most = (s, r, 0) := by
  have e := num_enc (lo := 0) (hi := most) (e := 3) (inI64_nat hs) (by omega) h (bytesI s ++ r)
  unfold wordS encT
  rw [List.append_assoc, e]
  simp only
  have hl := bytesI_len s
  rw [if_neg (by simp), if_neg (by simp only [List.length_append]; omega), Int.toNat_natCast, ← hl, List.take_left, List.drop_left, bytesOf_bytesI]
theorem iter_texts {long : Int} (r : List Int) : ∀ (t : List ByteArray) (out : List ByteArray), (∀ s ∈ t, (s.size : Int) ≤ long ∧ s.size ≤ 9223372036854775807) → iterS (fun l e => wordS l e long) t.length (out, encS t ++ r, 0) = (out ++ t, r, 0)
  | [], out, _ => by simp [iterS, encS]
  | s :: t, out, h => by
    have h1 := h s (by simp)
    rw [List.length_cons, iterS_step]
    have e : encS (s :: t) ++ r = encT s ++ (encS t ++ r) := by simp [encS]
    rw [e, word_enc h1.1 h1.2]
    have := iter_texts r t (out ++ [s]) fun s hs => h s (by simp [hs])
    simp only at this ⊢
    rw [this]; simp
theorem iter_ints {lo hi : Int} (r : List Int) : ∀ (m : List Int) (out : List Int), (∀ n ∈ m, inI64 n ∧ lo ≤ n ∧ n ≤ hi) → iterS (fun l e => numS l e lo hi 2) m.length (out, encL m ++ r, 0) = (out ++ m, r, 0)
  | [], out, _ => by simp [iterS, encL]
  | n :: m, out, h => by
    have h1 := h n (by simp)
    rw [List.length_cons, iterS_step]
    have e : encL (n :: m) ++ r = enc n ++ (encL m ++ r) := by simp [encL]
    rw [e, num_enc h1.1 h1.2.1 h1.2.2]
    have := iter_ints (lo := lo) (hi := hi) r m (out ++ [n]) fun s hs => h s (by simp [hs])
    simp only at this ⊢
    rw [this]; simp
theorem many_texts {long most : Int} {t : List ByteArray} (hm : (t.length : Int) ≤ most) (hl : t.length ≤ 9223372036854775807) (h : ∀ s ∈ t, (s.size : Int) ≤ long ∧ s.size ≤ 9223372036854775807) (r : List Int) :
    manyS (fun l e => wordS l e long) (enc (t.length : Int) ++ encS t ++ r) 0 most = (t, r, 0) := by
  unfold manyS
  rw [List.append_assoc, num_enc (inI64_nat hl) (by omega) hm, Int.toNat_natCast]
  have := iter_texts (long := long) r t [] h
  simpa using this
theorem many_ints {lo hi most : Int} {m : List Int} (hm : (m.length : Int) ≤ most) (hl : m.length ≤ 9223372036854775807) (h : ∀ n ∈ m, inI64 n ∧ lo ≤ n ∧ n ≤ hi) (r : List Int) :
    manyS (fun l e => numS l e lo hi 2) (enc (m.length : Int) ++ encL m ++ r) 0 most = (m, r, 0) := by
  unfold manyS
  rw [List.append_assoc, num_enc (inI64_nat hl) (by omega) hm, Int.toNat_natCast]
  have := iter_ints (lo := lo) (hi := hi) r m [] h
  simpa using this

/-! ### Beginnings -/
theorem trip {α β : Type} {z : α × β × Int} (h : z.2.2 = 0) : z = (z.1, z.2.1, 0) := by
  obtain ⟨a, b, c⟩ := z
  simp only at h
  rw [h]
/-- A beginning of bytes from which something is read: the same is read from it, or it ends early. -/
def Px {α : Type} (one : List Int → Int → α × List Int × Int) : Prop := ∀ (p q : List Int) (x : α) (r : List Int), okL (p ++ q) → one (p ++ q) 0 = (x, r, 0) →
  (∃ r', one p 0 = (x, r', 0) ∧ r = r' ++ q) ∨ (one p 0).2.2 = 4
theorem byt_left {p q : List Int} (h : byt (p ++ q)) : byt p := fun x hx => h x (by simp [hx])
theorem px_num {lo hi e : Int} (he : e ≠ 0) : Px fun l e0 => numS l e0 lo hi e := by
  intro p q x r hb h
  simp only [numS] at h ⊢
  rw [if_neg (by omega)] at h ⊢
  cases hd : dec (p ++ q) with
  | none => simp [hd] at h
  | some nr =>
    obtain ⟨n, r1⟩ := nr
    simp only [hd] at h
    split at h
    · simp only [Prod.mk.injEq] at h; exact absurd h.2.2 he
    · rename_i hc
      simp only [Prod.mk.injEq, and_true] at h
      obtain ⟨rfl, rfl⟩ := h
      cases hp : dec p with
      | none => right; rfl
      | some mr =>
        obtain ⟨m, r'⟩ := mr
        obtain ⟨hm, hpe⟩ := dec_enc (byt_left hb.2) hp
        have : dec (p ++ q) = some (m, r' ++ q) := by rw [hpe, List.append_assoc]; exact enc_dec hm _
        rw [hd] at this
        simp only [Option.some.injEq, Prod.mk.injEq] at this
        obtain ⟨rfl, rfl⟩ := this
        left
        exact ⟨r', by simp only; rw [if_neg hc], rfl⟩
theorem px_word {most : Int} : Px fun l e0 => wordS l e0 most := by
  intro p q x r hb h
  simp only [wordS] at h ⊢
  split at h
  · rename_i hx; simp only [Prod.mk.injEq] at h; exact absurd (congrArg Prod.snd h.2) hx
  · rename_i hx
    split at h
    · simp at h
    · rename_i hc
      have e3 : numS (p ++ q) 0 0 most 3 = ((numS (p ++ q) 0 0 most 3).1, (numS (p ++ q) 0 0 most 3).2.1, 0) := by
        exact trip (by simpa using hx)
      generalize (numS (p ++ q) 0 0 most 3).1 = n at *
      generalize (numS (p ++ q) 0 0 most 3).2.1 = r1 at *
      simp only [Prod.mk.injEq, and_true] at h
      obtain ⟨rfl, rfl⟩ := h
      rcases px_num (lo := 0) (hi := most) (e := 3) (by decide) p q n r1 hb e3 with ⟨r', h1, rfl⟩ | h1
      · simp only at h1
        rw [h1]
        simp only
        rw [if_neg (by simp)]
        by_cases hl : (r'.length : Int) < n
        · right; rw [if_pos hl]
        · left
          rw [if_neg hl]
          refine ⟨r'.drop n.toNat, ?_, ?_⟩
          · rw [List.take_append_of_le_length (by omega)]
          · rw [List.drop_append_of_le_length (by omega)]
      · right
        simp only at h1
        rw [if_pos (by rw [h1]; decide)]
        exact h1
theorem px_iter {α : Type} {one : List Int → Int → α × List Int × Int} (hP : Px one) (hR : Rd one) : ∀ (n : Nat) (out : List α) (p q : List Int) (x : List α) (r : List Int), okL (p ++ q) → iterS one n (out, p ++ q, 0) = (x, r, 0) →
    (∃ r', iterS one n (out, p, 0) = (x, r', 0) ∧ r = r' ++ q) ∨ (iterS one n (out, p, 0)).2.2 = 4
  | 0, out, p, q, x, r, _, h => by
    simp only [iterS, Prod.mk.injEq, and_true] at h ⊢
    exact .inl ⟨p, ⟨h.1, rfl⟩, h.2.symm⟩
  | n + 1, out, p, q, x, r, hok, h => by
    rw [iterS_step] at h ⊢
    by_cases he : (one (p ++ q) 0).2.2 = 0
    · have e1 : one (p ++ q) 0 = ((one (p ++ q) 0).1, (one (p ++ q) 0).2.1, 0) := trip he
      rcases hP p q _ _ hok e1 with ⟨r', h1, h2⟩ | h1
      · have hok' := (hR (p ++ q) hok).1
        rw [h1]
        rw [e1, h2] at h
        rw [h2] at hok'
        exact px_iter hP hR n _ r' q x r hok' h
      · right
        rw [iterS_done (by rw [h1]; decide)]
        exact h1
    · rw [iterS_done he] at h
      exact absurd (congrArg (fun z => z.2.2) h) he
theorem px_many {α : Type} {one : List Int → Int → α × List Int × Int} (hP : Px one) (hR : Rd one) {most : Int} : Px fun l e0 => manyS one l e0 most := by
  intro p q x r hb h
  simp only [manyS] at h ⊢
  by_cases he : (numS (p ++ q) 0 0 most 3).2.2 = 0
  · have e1 := trip he
    rcases px_num (lo := 0) (hi := most) (e := 3) (by decide) p q _ _ hb e1 with ⟨r', h1, h2⟩ | h1
    · simp only at h1
      rw [h1]
      have hok' := (numS_ok (lo := 0) (hi := most) (e := 3) hb (by decide)).1
      rw [h2] at hok'
      rw [e1, h2] at h
      exact px_iter hP hR _ [] r' q x r hok' h
    · right
      simp only at h1
      rw [iterS_done (by simp only; rw [h1]; decide)]
      exact h1
  · rw [iterS_done he] at h
    simp only [Prod.mk.injEq] at h
    exact absurd (congrArg Prod.snd h.2) he
end Go.Proofs.Ytgkjocnfdllieaa
