/- The tokens of two texts with a line feed in between. -/
import Derived.Test.YtkkamgblakhmiaaDoorLE

set_option linter.all false

namespace Go.Proofs.YtkkamgblakhmiaaDoor
open Go Go.Fw

def sh (x y : Int) (t : Tok) : Tok := ⟨t.k, t.t, t.line + x, t.at_ + y⟩
theorem sh_sh (x y u v : Int) (t : Tok) : sh x y (sh u v t) = sh (u + x) (v + y) t := by simp [sh, Int.add_assoc]
theorem sh_zero (t : Tok) : sh 0 0 t = t := by simp [sh]
/-- The tokens, from line 0 and place 0 on; the place of the error, if there is one. -/
def lexR : Nat → List UInt8 → List Tok × Option Nat
  | 0, _ => ([], none)
  | n + 1, l =>
    if l.drop (blk false l) = [] then ([], none)
    else if (firstS (l.drop (blk false l))).1 = 0 then ([], some (blk false l))
    else (⟨(firstS (l.drop (blk false l))).1, (firstS (l.drop (blk false l))).2, nls (l.take (blk false l)), blk false l⟩ ::
        (lexR n ((l.drop (blk false l)).drop (firstS (l.drop (blk false l))).2.length)).1.map (sh (nls (l.take (blk false l))) (blk false l + (firstS (l.drop (blk false l))).2.length)),
      (lexR n ((l.drop (blk false l)).drop (firstS (l.drop (blk false l))).2.length)).2.map fun p => p + (blk false l + (firstS (l.drop (blk false l))).2.length))
def outR (line a : Int) (acc : List Tok) (r : List Tok × Option Nat) : List Tok × Int × Int := match r.2 with
  | none => (acc ++ r.1.map (sh line a), 0, 0)
  | some p => ([], a + p, 6)
theorem lexG_R : ∀ (n : Nat) (l : List UInt8) (line a : Int) (acc : List Tok), l.length < n → acc.length + l.length < 4000 → lexG n l line a acc = outR line a acc (lexR n l)
  | 0, _, _, _, _, h, _ => absurd h (by omega)
  | n + 1, l, line, a, acc, h, h2 => by
    have hk := blk_le false l
    have hf := firstS_len (l.drop (blk false l))
    rw [lexG_step, lexR]
    by_cases h1 : l.drop (blk false l) = []
    · rw [if_pos h1, if_pos h1]; simp [outR]
    · rw [if_neg h1, if_neg h1]
      by_cases h3 : (firstS (l.drop (blk false l))).1 = 0
      · rw [if_pos h3, if_pos h3]; simp [outR]
      · have hw := hf.2 h3
        have hwl := hf.1
        simp only [List.length_drop] at hwl
        rw [if_neg h3, if_neg h3, if_neg (by omega), lexG_R n _ _ _ _ (by simp; omega) (by simp; omega)]
        generalize lexR n ((l.drop (blk false l)).drop (firstS (l.drop (blk false l))).2.length) = q
        obtain ⟨ts, o⟩ := q
        cases o with
        | none =>
          simp only [outR, Option.map_none, List.map_cons, List.map_map, List.append_assoc, List.singleton_append]
          congr 3
          · simp only [sh]; congr 1 <;> omega
          · apply List.map_congr_left
            intro t _
            simp only [Function.comp_apply, sh_sh]
            congr 1 <;> omega
        | some p =>
          simp only [outR, Option.map_some]
          congr 2
          push_cast
          omega
theorem lexR_fuel : ∀ (n m : Nat) (l : List UInt8), l.length < n → l.length < m → lexR n l = lexR m l
  | 0, _, _, h, _ => absurd h (by omega)
  | _ + 1, 0, _, _, h => absurd h (by omega)
  | n + 1, m + 1, l, hn, hm => by
    have hk := blk_le false l
    have hf := firstS_len (l.drop (blk false l))
    rw [lexR, lexR]
    by_cases h1 : l.drop (blk false l) = []
    · rw [if_pos h1, if_pos h1]
    · rw [if_neg h1, if_neg h1]
      by_cases h3 : (firstS (l.drop (blk false l))).1 = 0
      · rw [if_pos h3, if_pos h3]
      · have hw := hf.2 h3
        have hwl := hf.1
        simp only [List.length_drop] at hwl
        rw [if_neg h3, if_neg h3, lexR_fuel n m _ (by simp; omega) (by simp; omega)]
/-! ### A line feed behind -/
theorem blk_app (d x : List UInt8) : ∀ b, blk b d < d.length → blk b (d ++ 10 :: x) = blk b d := by
  induction d with
  | nil => intro b h; cases b <;> simp [blk] at h
  | cons c d ih =>
    intro b h
    cases b with
    | true =>
      simp only [blk, List.length_cons] at h ⊢
      rw [List.cons_append, blk, ih _ (by omega)]
    | false =>
      rw [List.cons_append]
      simp only [blk, List.length_cons] at h ⊢
      by_cases hb : (c == 32 || c == 9 || c == 10) = true
      · rw [if_pos hb] at h ⊢
        rw [if_pos hb, ih _ (by omega)]
      · rw [if_neg hb] at h ⊢
        rw [if_neg hb]
        have hh : (c == 47 && (d ++ 10 :: x).head? == some 47) = (c == 47 && d.head? == some 47) := by
          cases d with
          | nil => simp
          | cons e d => simp
        rw [hh]
        by_cases hs : (c == 47 && d.head? == some 47) = true
        · rw [if_pos hs] at h ⊢
          rw [if_pos hs, ih _ (by omega)]
        · rw [if_neg hs, if_neg hs]
theorem blk_all (d x : List UInt8) : ∀ b, blk b d = d.length → blk b (d ++ 10 :: x) = d.length + 1 + blk false x := by
  induction d with
  | nil => intro b _; cases b <;> simp [blk] <;> omega
  | cons c d ih =>
    intro b h
    cases b with
    | true =>
      simp only [blk, List.length_cons] at h
      rw [List.cons_append, blk, ih _ (by omega), List.length_cons]; omega
    | false =>
      rw [List.cons_append]
      simp only [blk, List.length_cons] at h ⊢
      by_cases hb : (c == 32 || c == 9 || c == 10) = true
      · rw [if_pos hb] at h ⊢
        rw [ih _ (by omega)]; omega
      · rw [if_neg hb] at h ⊢
        by_cases hs : (c == 47 && d.head? == some 47) = true
        · rw [if_pos hs] at h
          have hh : (c == 47 && (d ++ 10 :: x).head? == some 47) = true := by
            cases d with
            | nil => simp at hs
            | cons e d => simpa using hs
          rw [if_pos hh, ih _ (by omega)]; omega
        · rw [if_neg hs] at h; omega
theorem run_app (b : Bool) (d x : List UInt8) : runN b (d ++ 10 :: x) = runN b d := by
  induction d with
  | nil => cases b <;> rfl
  | cons c d ih => rw [List.cons_append]; simp only [runN, ih]
theorem pre_app {y d x : List UInt8} (h : (10 : UInt8) ∉ y) : y.isPrefixOf (d ++ 10 :: x) = y.isPrefixOf d := by
  induction y generalizing d with
  | nil => simp [List.isPrefixOf]
  | cons c y ih =>
    simp only [List.mem_cons, not_or] at h
    cases d with
    | nil => simp only [List.nil_append, List.isPrefixOf]; rw [show (c == 10) = false by rw [beq_eq_false_iff_ne]; exact Ne.symm h.1]; rfl
    | cons e d => simp only [List.cons_append, List.isPrefixOf, ih h.2]
theorem sym_app (d x : List UInt8) : symS (d ++ 10 :: x) = symS d := by
  unfold symS
  have : ∀ y ∈ symL, (10 : UInt8) ∉ y := by decide
  revert this
  generalize symL = L
  intro hL
  induction L with
  | nil => rfl
  | cons y L ih =>
    simp only [List.find?_cons, pre_app (hL y (by simp))]
    rw [ih fun z hz => hL z (by simp [hz])]
theorem first_app {d : List UInt8} (x : List UInt8) (h : d ≠ []) : firstS (d ++ 10 :: x) = firstS d := by
  cases d with
  | nil => exact absurd rfl h
  | cons c d =>
    have r1 := runN_le true (c :: d)
    have r2 := runN_le false (c :: d)
    rw [firstC (c := c) (l := d ++ 10 :: x) (m := c :: d ++ 10 :: x) rfl, firstC (m := c :: d) rfl, run_app, run_app, sym_app, List.take_append_of_le_length r1, List.take_append_of_le_length r2]
theorem nls_app (a b : List UInt8) : nls (a ++ b) = nls a + nls b := by simp [nls]
theorem lexR_app (x : List UInt8) : ∀ (n : Nat) (d : List UInt8), d.length + 1 + x.length < n → lexR n (d ++ 10 :: x) = match (lexR n d).2 with
    | some p => ((lexR n d).1, some p)
    | none => ((lexR n d).1 ++ (lexR n x).1.map (sh (nls d + 1) (d.length + 1)), (lexR n x).2.map fun p => p + (d.length + 1))
  | 0, _, h => absurd h (by omega)
  | n + 1, d, h => by
    have hk := blk_le false d
    by_cases h0 : blk false d = d.length
    · -- blanks alone
      have hb := blk_all d x false h0
      have hd0 : d.drop (blk false d) = [] := by rw [h0]; exact List.drop_length
      have e0 : lexR (n + 1) d = ([], none) := by rw [lexR, if_pos hd0]
      rw [e0]
      simp only [List.nil_append]
      have hdr : (d ++ 10 :: x).drop (d.length + 1 + blk false x) = x.drop (blk false x) := by
        rw [show d.length + 1 + blk false x = d.length + (1 + blk false x) by omega, ← List.drop_drop, List.drop_left, show 1 + blk false x = blk false x + 1 by omega, List.drop_succ_cons]
      have htk : nls ((d ++ 10 :: x).take (d.length + 1 + blk false x)) = nls d + 1 + nls (x.take (blk false x)) := by
        rw [show d.length + 1 + blk false x = d.length + (blk false x + 1) by omega, List.take_append, nls_app]
        rw [show d.length + (blk false x + 1) - d.length = blk false x + 1 by omega, List.take_of_length_le (by omega), List.take_succ_cons]
        simp [nls]; omega
      rw [lexR, hb, hdr, htk, lexR]
      by_cases h1 : x.drop (blk false x) = []
      · rw [if_pos h1, if_pos h1]; rfl
      · rw [if_neg h1, if_neg h1]
        by_cases h3 : (firstS (x.drop (blk false x))).1 = 0
        · rw [if_pos h3, if_pos h3]
          simp only [List.map_nil, Option.map_some]
          congr 2; omega
        · rw [if_neg h3, if_neg h3]
          simp only [List.map_cons, List.map_map]
          refine congr (congrArg Prod.mk ?_) ?_
          · congr 1
            · simp only [sh]; congr 1 <;> push_cast <;> omega
            · apply List.map_congr_left
              intro t _
              simp only [Function.comp_apply, sh_sh]
              congr 1 <;> push_cast <;> omega
          · simp only [Option.map_map]
            congr 1
            funext p
            simp only [Function.comp_apply]
            omega
    · have hb := blk_app d x false (by omega)
      have hdr : (d ++ 10 :: x).drop (blk false d) = d.drop (blk false d) ++ 10 :: x := List.drop_append_of_le_length (by omega)
      have htk : (d ++ 10 :: x).take (blk false d) = d.take (blk false d) := List.take_append_of_le_length (by omega)
      have hne : d.drop (blk false d) ≠ [] := by
        intro e
        have := congrArg List.length e
        simp at this; omega
      have hf := firstS_len (d.drop (blk false d))
      rw [lexR, hb, hdr, htk, first_app x hne, if_neg (by simp), lexR, if_neg hne]
      by_cases h3 : (firstS (d.drop (blk false d))).1 = 0
      · rw [if_pos h3, if_pos h3]
      · have hw := hf.2 h3
        have hwl := hf.1
        simp only [List.length_drop] at hwl
        rw [if_neg h3, if_neg h3]
        generalize hwg : (firstS (d.drop (blk false d))).2 = w at *
        have hd2 : (d.drop (blk false d) ++ 10 :: x).drop w.length = (d.drop (blk false d)).drop w.length ++ 10 :: x := List.drop_append_of_le_length (by simp; omega)
        have hlen : ((d.drop (blk false d)).drop w.length).length = d.length - blk false d - w.length := by simp; omega
        have ih := lexR_app x n ((d.drop (blk false d)).drop w.length) (by omega)
        rw [hd2, ih]
        have hfu : lexR n x = lexR (n + 1) x := lexR_fuel n (n + 1) x (by omega) (by omega)
        have hw0 : nls w = 0 := by rw [← hwg]; exact firstS_no10 _
        have hwp : w = (d.drop (blk false d)).take w.length := by rw [← hwg]; exact firstS_pre _
        have hnl : nls d = nls (d.take (blk false d)) + nls ((d.drop (blk false d)).drop w.length) := by
          have e1 : d = d.take (blk false d) ++ ((d.drop (blk false d)).take w.length ++ (d.drop (blk false d)).drop w.length) := by rw [List.take_append_drop, List.take_append_drop]
          conv => lhs; rw [e1]
          rw [nls_app, nls_app, ← hwp, hw0]; omega
        rw [← hfu]
        generalize lexR n ((d.drop (blk false d)).drop w.length) = q
        obtain ⟨ts, o⟩ := q
        generalize nls (d.take (blk false d)) = na at hnl ⊢
        generalize nls ((d.drop (blk false d)).drop w.length) = nb at hnl ⊢
        cases o with
        | some p => rfl
        | none =>
          simp only [Option.map_none, List.map_append, List.map_map, List.cons_append]
          refine congr (congrArg Prod.mk ?_) ?_
          · congr 2
            apply List.map_congr_left
            intro t _
            simp only [Function.comp_apply, sh_sh]
            congr 1 <;> push_cast <;> omega
          · simp only [Option.map_map]
            congr 1
            funext p
            simp only [Function.comp_apply]
            omega
theorem lexS_R {l : List UInt8} (h : l.length ≤ 1000) : lexS l = outR 1 0 [] (lexR (l.length + 1) l) := by
  unfold lexS
  rw [if_neg (by omega), lexG_R _ _ _ _ _ (by omega) (by simp; omega)]
/-- The three cases of a text in two parts. -/
theorem lex_parts {a b : List UInt8} (ha : a.length ≤ 200) (hb : b.length ≤ 200) :
    ((lexS a).2.2 ≠ 0 → lexS (a ++ 10 :: b) = ([], (lexS a).2.1, (lexS a).2.2)) ∧
    ((lexS a).2.2 = 0 → (lexS b).2.2 ≠ 0 → lexS (a ++ 10 :: b) = ([], (a.length : Int) + 1 + (lexS b).2.1, (lexS b).2.2)) ∧
    ((lexS a).2.2 = 0 → (lexS b).2.2 = 0 → lexS (a ++ 10 :: b) = ((lexS a).1 ++ (lexS b).1.map (sh (1 + nls a : Nat) (a.length + 1 : Nat)), 0, 0)) := by
  have hc := lexR_app b (a.length + 1 + b.length + 1) a (by omega)
  rw [lexS_R (l := a) (by omega), lexS_R (l := b) (by omega), lexS_R (l := a ++ 10 :: b) (by simp; omega)]
  rw [lexR_fuel (a.length + 1) (a.length + 1 + b.length + 1) a (by omega) (by omega), lexR_fuel (b.length + 1) (a.length + 1 + b.length + 1) b (by omega) (by omega),
    lexR_fuel ((a ++ 10 :: b).length + 1) (a.length + 1 + b.length + 1) (a ++ 10 :: b) (by simp) (by simp; omega), hc]
  generalize lexR (a.length + 1 + b.length + 1) a = p
  generalize lexR (a.length + 1 + b.length + 1) b = q
  obtain ⟨ta, oa⟩ := p
  obtain ⟨tb, ob⟩ := q
  cases oa with
  | some pa => exact ⟨fun _ => by simp [outR], fun h => absurd h (by simp [outR]), fun h => absurd h (by simp [outR])⟩
  | none =>
    refine ⟨fun h => absurd rfl h, fun _ h => ?_, fun _ h => ?_⟩
    · cases ob with
      | none => exact absurd rfl h
      | some pb => simp only [outR, Option.map_some]; congr 2; push_cast; omega
    · cases ob with
      | some pb => exact absurd h (by simp [outR])
      | none =>
        simp only [outR, Option.map_none, List.nil_append, List.map_append, List.map_map]
        congr 2
        apply List.map_congr_left
        intro t _
        simp only [Function.comp_apply, sh_sh]
        congr 1 <;> push_cast <;> omega
end Go.Proofs.YtkkamgblakhmiaaDoor

/- Lex, whose tokens may be turned. -/
namespace Go.Proofs.YtkkamgblakhmiaaDoor
open Go Go.Fw
set_option maxRecDepth 20000

/-- What Lex leaves for a caller who may turn its tokens. -/
def lexK (r : List Tok × Int × Int) (σ : List AObj) (k : AV → List AObj → Prop) : Prop :=
  if r.2.2 = 0 then ∀ ver, k (.tup [.arr σ.length ver, .lit (.int .i64 0), .lit (.int .i64 0)]) (σ ++ [.arr 36 4 (toks r.1) ver false])
  else ∀ ver xs, k (.tup [.lit (.slice none 0 0), .lit (.int .i64 r.2.1), .lit (.int .i64 r.2.2)]) (σ ++ [.arr 36 4 xs ver false])
theorem lexK_ok {r : List Tok × Int × Int} {σ : List AObj} {k : AV → List AObj → Prop} (h : lexK r σ k) {ts : List Tok} (e : r = (ts, 0, 0)) (ver : Nat) : k (.tup [.arr σ.length ver, .lit (.int .i64 0), .lit (.int .i64 0)]) (σ ++ [.arr 36 4 (toks ts) ver false]) := by
  subst e; unfold lexK at h; rw [if_pos rfl] at h; exact h ver
theorem lexK_no {r : List Tok × Int × Int} {σ : List AObj} {k : AV → List AObj → Prop} (h : lexK r σ k) {a e : Int} (he : r = ([], a, e)) (h0 : e ≠ 0) (ver : Nat) (xs : List AV) : k (.tup [.lit (.slice none 0 0), .lit (.int .i64 a), .lit (.int .i64 e)]) (σ ++ [.arr 36 4 xs ver false]) := by
  subst he; unfold lexK at h; rw [if_neg h0] at h; exact h ver xs
set_option maxHeartbeats 4000000 in
theorem lex_ec {s : ByteArray} {σ : List AObj} {k : AV → List AObj → Prop} (hb : (ul s).length ≤ 20000) (hk : lexK (lexS (ul s)) σ k) : EC Tryd.prog 11 [.lit (.string s)] σ k := by
  obtain ⟨l, rfl⟩ := bs_ex s
  simp only [ul_bs, bs_size] at *
  have g1 : decide ((l.length : Int) > 20000) = false := decide_eq_false (by omega)
  have hS : lexS l = lexG (l.length + 1) l 1 0 [] := by unfold lexS; rw [if_neg (by omega)]
  rw [hS] at hk
  refine ec_ofR E24_ok mixed (kp11) (rs := [.tmp 2, .tmp 3, .tmp 4]) Tryd.func11 rfl (by kernel_rfl) (by kernel_rfl) (Nat.le_of_ble_eq_true rfl) ?_
  simp only [initF_cons, initF_nil, Nat.reduceAdd]
  refine t_name fun KF => ?_
  unfold E24
  repeat' (first
   | (with_reducible first | refine t_seq fun K => ?_ | refine t_block ?_ | refine t_scope ?_ | refine t_label ?_ | refine t_skip ?_ | refine t_exit ?_ | refine t_ret ?_ | refine t_k ?_ | refine t_gF ?_ | exact kp_nil | exact Kp.refl _ | exact kp_to | refine kp_cons ?_ | refine kp_arr ?_ | refine kp_app ?_ | refine t_p ?_ | refine t_br (fun hc => ?_) fun hc => ?_)
   | ((with_reducible first | refine t_kE (t_openE ?_) | refine t_kD (t_openD ?_) | refine t_kE ?_ | refine t_kD ?_ | refine t_gS ?_ | refine t_kL ?_ | refine t_kLF ?_ ?_ | refine t_region fun K => ?_ | refine t_cond fun A B => ?_ | refine t_draw (by kernel_rfl) fun K => ?_); (try (first | refine t_hideE fun KL => ?_ | refine t_hideD fun KL => ?_)); simp only [go_sem, geff, kp11, g1])
   | ((with_reducible refine kp_skip ?_ ?_); rfl) | simp only [thenQ, blockQ, scopeQ, Nat.reduceEqDiff, reduceIte] | (with_reducible first | refine And.intro ?_ ?_ | intro vr))
  refine t_loopF (ι := Lp l) (fun i => [(3, .lit (.int .i64 i.i)), (5, .lit (.int .i64 i.line)), (2, .arr σ.length i.ver)]) (fun i => σ ++ [.arr 36 4 (toks i.acc) i.ver false]) (fun i => l.length - i.i) ⟨0, 1, [], 0, l.length + 1, by omega, by omega, by simp, by omega, by simp⟩ ?_ ?_
  · refine (le_nil 2 36 4 rfl).trans ?_
    simp only [updL_nil, updL_cons, delF_top, delF_upd, Nat.reduceEqDiff, reduceIte]
    refine Le.frameS (by first | rfl | (simp only [go_sem]; try rfl)) ?_
    repeat' (first | exact leF_top _ | exact (fun _ => LeR.refl _) | (with_reducible refine leF_sl ?_ ?_) | (refine leF_upd ?_ ?_))
    all_goals (first | exact LeR.top _ | exact LeR.refl _ | (refine LeR.of_eq ?_; (try simp only [go_sem]); try rfl) | ((try simp only [go_sem]); try rfl))
  rintro ⟨i, line, acc, ver, n, hi, hline, hacc, hn, hF⟩ K0
  cases n with
  | zero => omega
  | succ n =>
  rw [lexG_step] at hF
  have hkl := blk_le false (l.drop i)
  generalize hk' : blk false (l.drop i) = b at *
  have hl : (l.drop i).length = l.length - i := by simp
  rw [List.drop_drop] at hF
  have e1 : ((i : Int) + (b : Int)).toNat = i + b := by omega
  have e2 : (l.take (i + b)).drop i = (l.drop i).take b := by rw [List.drop_take]; congr 1; omega
  have e3 : List.count 10 ((l.drop i).take b) = nls ((l.drop i).take b) := rfl
  have hnl := nls_le ((l.drop i).take b)
  have hlt : ((l.drop i).take b).length ≤ b := by simp; omega
  generalize hnk : nls ((l.drop i).take b) = nk at *
  have hln : ((line : Int) + (nk : Int)) = ((line + nk : Nat) : Int) := by omega
  by_cases h1 : i + b = l.length
  · have g2 : ((i : Int) + (b : Int) == (l.length : Int)) = true := by rw [beq_iff_eq]; omega
    rw [if_pos (by rw [h1]; exact List.drop_length)] at hF
    repeat' (first
     | (with_reducible first | refine t_seq fun K => ?_ | refine t_block ?_ | refine t_scope ?_ | refine t_label ?_ | refine t_skip ?_ | refine t_exit ?_ | refine t_ret ?_ | refine t_k ?_ | refine t_gF ?_ | exact kp_nil | exact Kp.refl _ | exact kp_to | refine kp_cons ?_ | refine kp_arr ?_ | refine kp_app ?_ | refine t_p ?_ | refine t_br (fun hc => ?_) fun hc => ?_)
     | ((with_reducible first | refine t_kE (t_openE ?_) | refine t_kD (t_openD ?_) | refine t_kE ?_ | refine t_kD ?_ | refine t_gS ?_ | refine t_kL ?_ | refine t_kLF ?_ ?_ | refine t_region fun K => ?_ | refine t_cond fun A B => ?_ | refine t_draw (by kernel_rfl) fun K => ?_); (try (first | refine t_hideE fun KL => ?_ | refine t_hideD fun KL => ?_)); simp only [go_sem, geff, kp11, updL_cons, updL_nil, Int.toNat_natCast, List.take_length, hk', e1, e2, e3, hnk, g2])
     | ((with_reducible refine kp_skip ?_ ?_); rfl) | simp only [thenQ, blockQ, scopeQ, Nat.reduceEqDiff, reduceIte] | (with_reducible first | refine And.intro ?_ ?_ | intro vr))
    all_goals try (first | (with_reducible assumption) | (intros; (try simp only [Bool.and_eq_true, Bool.or_eq_true, Bool.or_eq_false_iff, Bool.not_eq_true', Bool.not_eq_false', decide_eq_true_eq, decide_eq_false_iff_not, beq_iff_eq, beq_eq_false_iff_ne, bne_iff_ne, bne_eq_false_iff_eq, ne_eq, inI64, List.length_append] at *) <;> omega) | (intros; (with_reducible first | refine impB_ofR ?_ | refine and_ofB ?_ ?_) <;> with_reducible first | assumption | (refine impB_ofR ?_; assumption)) | ((try simp only [Bool.and_eq_true] at vr); simp only [impB, vr, Bool.or_true, Bool.true_or, Bool.and_self, Bool.not_true, Bool.not_false, Bool.and_true]; done))
    all_goals ((first | refine end_retE ?_ | refine end_normE ?_); simp only [fin, go_sem])
    exact lexK_ok hk hF.symm ver
  · have g2 : ((i : Int) + (b : Int) == (l.length : Int)) = false := by rw [beq_eq_false_iff_ne]; omega
    have hne : l.drop (i + b) ≠ [] := by
      intro h
      have := congrArg List.length h
      simp at this; omega
    have hfl := firstS_len (l.drop (i + b))
    rw [if_neg hne] at hF
    generalize hfs : firstS (l.drop (i + b)) = r at hF hfl
    obtain ⟨kd, w⟩ := r
    simp only at hF hfl
    have hl2 : (l.drop (i + b)).length = l.length - (i + b) := by simp
    by_cases h2 : kd = 0
    · have g3 : (kd == 0) = true := by rw [beq_iff_eq]; exact h2
      rw [if_pos h2] at hF
      repeat' (first
       | (with_reducible first | refine t_seq fun K => ?_ | refine t_block ?_ | refine t_scope ?_ | refine t_label ?_ | refine t_skip ?_ | refine t_exit ?_ | refine t_ret ?_ | refine t_k ?_ | refine t_gF ?_ | exact kp_nil | exact Kp.refl _ | exact kp_to | refine kp_cons ?_ | refine kp_arr ?_ | refine kp_app ?_ | refine t_p ?_ | refine t_br (fun hc => ?_) fun hc => ?_)
       | ((with_reducible first | refine t_kE (t_openE ?_) | refine t_kD (t_openD ?_) | refine t_kE ?_ | refine t_kD ?_ | refine t_gS ?_ | refine t_kL ?_ | refine t_kLF ?_ ?_ | refine t_region fun K => ?_ | refine t_cond fun A B => ?_ | refine t_draw (by kernel_rfl) fun K => ?_); (try (first | refine t_hideE fun KL => ?_ | refine t_hideD fun KL => ?_)); simp only [go_sem, geff, kp11, updL_cons, updL_nil, Int.toNat_natCast, List.take_length, hk', e1, e2, e3, hnk, g2, hfs, fstV, g3])
       | ((with_reducible refine kp_skip ?_ ?_); rfl) | simp only [thenQ, blockQ, scopeQ, Nat.reduceEqDiff, reduceIte] | (with_reducible first | refine And.intro ?_ ?_ | intro vr))
      all_goals try (first | (with_reducible assumption) | (intros; (try simp only [Bool.and_eq_true, Bool.or_eq_true, Bool.or_eq_false_iff, Bool.not_eq_true', Bool.not_eq_false', decide_eq_true_eq, decide_eq_false_iff_not, beq_iff_eq, beq_eq_false_iff_ne, bne_iff_ne, bne_eq_false_iff_eq, ne_eq, inI64, List.length_append] at *) <;> omega) | (intros; (with_reducible first | refine impB_ofR ?_ | refine and_ofB ?_ ?_) <;> with_reducible first | assumption | (refine impB_ofR ?_; assumption)) | ((try simp only [Bool.and_eq_true] at vr); simp only [impB, vr, Bool.or_true, Bool.true_or, Bool.and_self, Bool.not_true, Bool.not_false, Bool.and_true]; done))
      all_goals ((first | refine end_retE ?_ | refine end_normE ?_); simp only [fin, go_sem])
      exact lexK_no hk hF.symm (by decide) ver _
    · have g3 : (kd == 0) = false := by rw [beq_eq_false_iff_ne]; exact h2
      have hw := hfl.2 h2
      rw [if_neg h2] at hF
      by_cases h3 : acc.length = 4000
      · have g4 : ((acc.length : Int) == 4000) = true := by rw [beq_iff_eq]; omega
        rw [if_pos h3] at hF
        repeat' (first
         | (with_reducible first | refine t_seq fun K => ?_ | refine t_block ?_ | refine t_scope ?_ | refine t_label ?_ | refine t_skip ?_ | refine t_exit ?_ | refine t_ret ?_ | refine t_k ?_ | refine t_gF ?_ | exact kp_nil | exact Kp.refl _ | exact kp_to | refine kp_cons ?_ | refine kp_arr ?_ | refine kp_app ?_ | refine t_p ?_ | refine t_br (fun hc => ?_) fun hc => ?_)
         | ((with_reducible first | refine t_kE (t_openE ?_) | refine t_kD (t_openD ?_) | refine t_kE ?_ | refine t_kD ?_ | refine t_gS ?_ | refine t_kL ?_ | refine t_kLF ?_ ?_ | refine t_region fun K => ?_ | refine t_cond fun A B => ?_ | refine t_draw (by kernel_rfl) fun K => ?_); (try (first | refine t_hideE fun KL => ?_ | refine t_hideD fun KL => ?_)); simp only [go_sem, geff, kp11, updL_cons, updL_nil, Int.toNat_natCast, List.take_length, hk', e1, e2, e3, hnk, g2, hfs, fstV, g3, g4])
         | ((with_reducible refine kp_skip ?_ ?_); rfl) | simp only [thenQ, blockQ, scopeQ, Nat.reduceEqDiff, reduceIte] | (with_reducible first | refine And.intro ?_ ?_ | intro vr))
        all_goals try (first | (with_reducible assumption) | (intros; (try simp only [Bool.and_eq_true, Bool.or_eq_true, Bool.or_eq_false_iff, Bool.not_eq_true', Bool.not_eq_false', decide_eq_true_eq, decide_eq_false_iff_not, beq_iff_eq, beq_eq_false_iff_ne, bne_iff_ne, bne_eq_false_iff_eq, ne_eq, inI64, List.length_append] at *) <;> omega) | (intros; (with_reducible first | refine impB_ofR ?_ | refine and_ofB ?_ ?_) <;> with_reducible first | assumption | (refine impB_ofR ?_; assumption)) | ((try simp only [Bool.and_eq_true] at vr); simp only [impB, vr, Bool.or_true, Bool.true_or, Bool.and_self, Bool.not_true, Bool.not_false, Bool.and_true]; done))
        all_goals ((first | refine end_retE ?_ | refine end_normE ?_); simp only [fin, go_sem])
        exact lexK_no hk hF.symm (by decide) ver _
      · have g4 : ((acc.length : Int) == 4000) = false := by rw [beq_eq_false_iff_ne]; omega
        rw [if_neg h3, List.drop_drop] at hF
        have e4 : ((i : Int) + (b : Int)) + (w.length : Int) = ((i + b + w.length : Nat) : Int) := by omega
        rw [hln] at hF
        repeat' (first
         | (with_reducible first | refine t_seq fun K => ?_ | refine t_block ?_ | refine t_scope ?_ | refine t_label ?_ | refine t_skip ?_ | refine t_exit ?_ | refine t_ret ?_ | refine t_k ?_ | refine t_gF ?_ | exact kp_nil | exact Kp.refl _ | exact kp_to | refine kp_cons ?_ | refine kp_arr ?_ | refine kp_app ?_ | refine t_p ?_ | refine t_br (fun hc => ?_) fun hc => ?_)
         | ((with_reducible first | refine t_kE (t_openE ?_) | refine t_kD (t_openD ?_) | refine t_kE ?_ | refine t_kD ?_ | refine t_gS ?_ | refine t_kL ?_ | refine t_kLF ?_ ?_ | refine t_region fun K => ?_ | refine t_cond fun A B => ?_ | refine t_draw (by kernel_rfl) fun K => ?_); (try (first | refine t_hideE fun KL => ?_ | refine t_hideD fun KL => ?_)); simp only [go_sem, geff, kp11, updL_cons, updL_nil, Int.toNat_natCast, List.take_length, hk', e1, e2, e3, hnk, g2, hfs, fstV, g3, g4, e4, hln])
         | ((with_reducible refine kp_skip ?_ ?_); rfl) | simp only [thenQ, blockQ, scopeQ, Nat.reduceEqDiff, reduceIte] | (with_reducible first | refine And.intro ?_ ?_ | intro vr))
        all_goals try (first | (with_reducible assumption) | (intros; (try simp only [Bool.and_eq_true, Bool.or_eq_true, Bool.or_eq_false_iff, Bool.not_eq_true', Bool.not_eq_false', decide_eq_true_eq, decide_eq_false_iff_not, beq_iff_eq, beq_eq_false_iff_ne, bne_iff_ne, bne_eq_false_iff_eq, ne_eq, inI64, List.length_append] at *) <;> omega) | (intros; (with_reducible first | refine impB_ofR ?_ | refine and_ofB ?_ ?_) <;> with_reducible first | assumption | (refine impB_ofR ?_; assumption)) | ((try simp only [Bool.and_eq_true] at vr); simp only [impB, vr, Bool.or_true, Bool.true_or, Bool.and_self, Bool.not_true, Bool.not_false, Bool.and_true]; done))
        refine ⟨⟨i + b + w.length, line + nk, acc ++ [⟨kd, w, (line + nk : Nat), (i : Int) + (b : Int)⟩], ver + 1, n, by omega, by omega, by simp; omega, by omega, ?_⟩, by simp only; omega, ?_⟩
        · rw [← hF, e4]
        · simp only [updL_nil, updL_cons, delF_top, delF_upd, Nat.reduceEqDiff, reduceIte]
          refine Le.frameS (by first | rfl | (simp only [go_sem]; try rfl)) ?_
          repeat' (first | exact leF_top _ | exact (fun _ => LeR.refl _) | (with_reducible refine leF_sl ?_ ?_) | (refine leF_upd ?_ ?_))
          all_goals (first | exact LeR.top _ | exact LeR.refl _ | (refine LeR.of_eq ?_; (try simp only [go_sem]); try rfl) | ((try simp only [go_sem]); try rfl))
noncomputable def ecn11 : ECon Tryd.prog where
  f := 11
  c := fun args σ k => match args with
    | [.lit (.string s)] => (ul s).length ≤ 20000 ∧ lexK (lexS (ul s)) σ k
    | _ => False
  ok := by
    intro args σ k h
    split at h
    · exact (lex_ec h.1 h.2)
    · exact h.elim
  fk := fk11
theorem ecn11_f : ecn11.f = 11 := rfl
theorem ecn11_c {s : ByteArray} {σ : List AObj} {k : AV → List AObj → Prop} : ecn11.c [.lit (.string s)] σ k = ((ul s).length ≤ 20000 ∧ lexK (lexS (ul s)) σ k) := rfl
theorem theirs_ec {l : List Tok} {σ : List AObj} {k : AV → List AObj → Prop} (hl : l.length ≤ 1000000000) (hk : ∀ ver, k (.arr σ.length ver) (σ ++ [.arr 41 4 (toks l) ver false])) : EC Tryd.prog 14 [.sl false 4 (toks l)] σ k := by
  refine ec_ofR E26_ok mixed (kp14) (rs := [.tmp 2]) Tryd.func14 rfl (by kernel_rfl) (by kernel_rfl) (Nat.le_of_ble_eq_true rfl) ?_
  simp only [initF_cons, initF_nil, Nat.reduceAdd]
  refine t_name fun KF => ?_
  unfold E26
  repeat' (first
   | (with_reducible first | refine t_seq fun K => ?_ | refine t_block ?_ | refine t_scope ?_ | refine t_label ?_ | refine t_skip ?_ | refine t_exit ?_ | refine t_ret ?_ | refine t_k ?_ | refine t_gF ?_ | exact kp_nil | exact Kp.refl _ | exact kp_to | refine kp_cons ?_ | refine kp_arr ?_ | refine kp_app ?_ | refine t_p ?_ | refine t_br (fun hc => ?_) fun hc => ?_)
   | ((with_reducible first | refine t_kE (t_openE ?_) | refine t_kD (t_openD ?_) | refine t_kE ?_ | refine t_kD ?_ | refine t_gS ?_ | refine t_kL ?_ | refine t_kLF ?_ ?_ | refine t_region fun K => ?_ | refine t_cond fun A B => ?_ | refine t_draw (by kernel_rfl) fun K => ?_); (try (first | refine t_hideE fun KL => ?_ | refine t_hideD fun KL => ?_)); simp only [go_sem, geff, kp14])
   | ((with_reducible refine kp_skip ?_ ?_); rfl) | simp only [thenQ, blockQ, scopeQ, Nat.reduceEqDiff, reduceIte] | (with_reducible first | refine And.intro ?_ ?_ | intro vr))
  all_goals try (first | (with_reducible assumption) | (intros; (try simp only [Bool.and_eq_true, Bool.or_eq_true, Bool.or_eq_false_iff, Bool.not_eq_true', Bool.not_eq_false', decide_eq_true_eq, decide_eq_false_iff_not, beq_iff_eq, beq_eq_false_iff_ne, bne_iff_ne, bne_eq_false_iff_eq, ne_eq, inI64, List.length_append] at *) <;> omega) | (intros; (with_reducible first | refine impB_ofR ?_ | refine and_ofB ?_ ?_) <;> with_reducible first | assumption | (refine impB_ofR ?_; assumption)) | ((try simp only [Bool.and_eq_true] at vr); simp only [impB, vr, Bool.or_true, Bool.true_or, Bool.and_self, Bool.not_true, Bool.not_false, Bool.and_true]; done))
  refine t_loopF (ι := { p : Nat × Nat // p.1 ≤ l.length }) (fun i => [(4, .lit (.int .i64 i.1.1)), (3, .arr σ.length i.1.2)]) (fun i => σ ++ [.arr 41 4 (toks (l.take i.1.1)) i.1.2 false]) (fun i => l.length - i.1.1) ⟨(0, 0), by simp⟩ ?_ ?_
  · refine (le_nil 3 41 4 rfl).trans ?_
    simp only [updL_nil, updL_cons, delF_top, delF_upd, Nat.reduceEqDiff, reduceIte]
    refine Le.frameS (by first | rfl | (simp only [go_sem]; try rfl)) ?_
    repeat' (first | exact leF_top _ | exact (fun _ => LeR.refl _) | (with_reducible refine leF_sl ?_ ?_) | (refine leF_upd ?_ ?_))
    all_goals (first | exact LeR.top _ | exact LeR.refl _ | (refine LeR.of_eq ?_; (try simp only [go_sem]); try rfl) | ((try simp only [go_sem]); try rfl))
  rintro ⟨⟨i, ver⟩, hi⟩ K0
  simp only at hi
  rcases Nat.lt_or_ge i l.length with hlt | hge
  · have g5 : decide ((i : Int) < (l.length : Int)) = true := decide_eq_true (by omega)
    have hs : l.take (i + 1) = l.take i ++ [⟨(l.getD i ⟨0, [], 0, 0⟩).k, (l.getD i ⟨0, [], 0, 0⟩).t, (l.getD i ⟨0, [], 0, 0⟩).line, (l.getD i ⟨0, [], 0, 0⟩).at_⟩] := by
      rw [List.take_add_one, List.getD_eq_getElem?_getD, List.getElem?_eq_getElem hlt]; rfl
    repeat' (first
     | (with_reducible first | refine t_seq fun K => ?_ | refine t_block ?_ | refine t_scope ?_ | refine t_label ?_ | refine t_skip ?_ | refine t_exit ?_ | refine t_ret ?_ | refine t_k ?_ | refine t_gF ?_ | exact kp_nil | exact Kp.refl _ | exact kp_to | refine kp_cons ?_ | refine kp_arr ?_ | refine kp_app ?_ | refine t_p ?_ | refine t_br (fun hc => ?_) fun hc => ?_)
     | ((with_reducible first | refine t_kE (t_openE ?_) | refine t_kD (t_openD ?_) | refine t_kE ?_ | refine t_kD ?_ | refine t_gS ?_ | refine t_kL ?_ | refine t_kLF ?_ ?_ | refine t_region fun K => ?_ | refine t_cond fun A B => ?_ | refine t_draw (by kernel_rfl) fun K => ?_); (try (first | refine t_hideE fun KL => ?_ | refine t_hideD fun KL => ?_)); simp only [go_sem, geff, kp14, updL_cons, updL_nil, Int.toNat_natCast, g5, tokV])
     | ((with_reducible refine kp_skip ?_ ?_); rfl) | simp only [thenQ, blockQ, scopeQ, Nat.reduceEqDiff, reduceIte] | (with_reducible first | refine And.intro ?_ ?_ | intro vr))
    all_goals try (first | (with_reducible assumption) | (intros; (try simp only [Bool.and_eq_true, Bool.or_eq_true, Bool.or_eq_false_iff, Bool.not_eq_true', Bool.not_eq_false', decide_eq_true_eq, decide_eq_false_iff_not, beq_iff_eq, beq_eq_false_iff_ne, bne_iff_ne, bne_eq_false_iff_eq, ne_eq, inI64, List.length_append, List.length_take] at *) <;> omega) | (intros; (with_reducible first | refine impB_ofR ?_ | refine and_ofB ?_ ?_) <;> with_reducible first | assumption | (refine impB_ofR ?_; assumption)) | ((try simp only [Bool.and_eq_true] at vr); simp only [impB, vr, Bool.or_true, Bool.true_or, Bool.and_self, Bool.not_true, Bool.not_false, Bool.and_true]; done))
    rw [← hs]
    refine ⟨⟨(i + 1, ver + 1), by simp only; omega⟩, by first | (simp only; omega) | omega, ?_⟩
    simp only [updL_nil, updL_cons, delF_top, delF_upd, Nat.reduceEqDiff, reduceIte]
    refine Le.frameS (by first | rfl | (simp only [go_sem]; try rfl)) ?_
    repeat' (first | exact leF_top _ | exact (fun _ => LeR.refl _) | (with_reducible refine leF_sl ?_ ?_) | (refine leF_upd ?_ ?_))
    all_goals (first | exact LeR.top _ | exact LeR.refl _ | (refine LeR.of_eq ?_; (try simp only [go_sem]); try rfl) | ((try simp only [go_sem]); try rfl))
  · have g5 : decide ((i : Int) < (l.length : Int)) = false := decide_eq_false (by omega)
    have e : i = l.length := by omega
    subst e
    rw [List.take_length] at *
    repeat' (first
     | (with_reducible first | refine t_seq fun K => ?_ | refine t_block ?_ | refine t_scope ?_ | refine t_label ?_ | refine t_skip ?_ | refine t_exit ?_ | refine t_ret ?_ | refine t_k ?_ | refine t_gF ?_ | exact kp_nil | exact Kp.refl _ | exact kp_to | refine kp_cons ?_ | refine kp_arr ?_ | refine kp_app ?_ | refine t_p ?_ | refine t_br (fun hc => ?_) fun hc => ?_)
     | ((with_reducible first | refine t_kE (t_openE ?_) | refine t_kD (t_openD ?_) | refine t_kE ?_ | refine t_kD ?_ | refine t_gS ?_ | refine t_kL ?_ | refine t_kLF ?_ ?_ | refine t_region fun K => ?_ | refine t_cond fun A B => ?_ | refine t_draw (by kernel_rfl) fun K => ?_); (try (first | refine t_hideE fun KL => ?_ | refine t_hideD fun KL => ?_)); simp only [go_sem, geff, kp14, updL_cons, updL_nil, Int.toNat_natCast, g5])
     | ((with_reducible refine kp_skip ?_ ?_); rfl) | simp only [thenQ, blockQ, scopeQ, Nat.reduceEqDiff, reduceIte] | (with_reducible first | refine And.intro ?_ ?_ | intro vr))
    all_goals try (first | (with_reducible assumption) | (intros; (try simp only [Bool.and_eq_true, Bool.or_eq_true, Bool.or_eq_false_iff, Bool.not_eq_true', Bool.not_eq_false', decide_eq_true_eq, decide_eq_false_iff_not, beq_iff_eq, beq_eq_false_iff_ne, bne_iff_ne, bne_eq_false_iff_eq, ne_eq, inI64, List.length_append] at *) <;> omega) | (intros; (with_reducible first | refine impB_ofR ?_ | refine and_ofB ?_ ?_) <;> with_reducible first | assumption | (refine impB_ofR ?_; assumption)) | ((try simp only [Bool.and_eq_true] at vr); simp only [impB, vr, Bool.or_true, Bool.true_or, Bool.and_self, Bool.not_true, Bool.not_false, Bool.and_true]; done))
    all_goals ((first | refine end_retE ?_ | refine end_normE ?_); simp only [fin, go_sem])
    exact hk ver
noncomputable def ecn14 : ECon Tryd.prog where
  f := 14
  c := fun args σ k => match args with
    | [xl] => match tkOf xl with | some l => l.length ≤ 1000000000 ∧ ∀ ver, k (.arr σ.length ver) (σ ++ [.arr 41 4 (toks l) ver false]) | _ => False
    | _ => False
  ok := by
    intro args σ k h
    split at h
    · split at h
      · rename_i hl
        exact EC.weak (theirs_ec h.1 h.2) (LeRL.cons (tkOf_leR hl) (LeRL.nil))
      · exact h.elim
    · exact h.elim
  fk := fk14
theorem ecn14_f : ecn14.f = 14 := rfl
theorem ecn14_c {xl : AV} {σ : List AObj} {k : AV → List AObj → Prop} : ecn14.c [xl] σ k = match tkOf xl with | some l => l.length ≤ 1000000000 ∧ ∀ ver, k (.arr σ.length ver) (σ ++ [.arr 41 4 (toks l) ver false]) | _ => False := rfl
end Go.Proofs.YtkkamgblakhmiaaDoor

/- The law on two texts with a line feed in between. -/
namespace Go.Proofs.YtkkamgblakhmiaaDoor
open Go Go.Fw
set_option maxRecDepth 20000

noncomputable def E33 : Env := envJ (P := Tryd.prog) jk zer (fun _ => false) (fun t => t == 128 || t == 130 || t == 132 || t == 133) [con10, con13] [ecn11, ECon.frz ecn14]
theorem E33_ok : EnvOk Tryd.prog E33 := envJOk zer_ok
theorem toks_set (l : List Tok) (i : Nat) (a b c : Int) (s : List UInt8) : (toks l).set i (.agg [.lit (.int .i64 a), .lit (.string (bs s)), .lit (.int .i64 b), .lit (.int .i64 c)]) = toks (l.set i ⟨a, s, b, c⟩) := by
  simp only [toks, List.map_set, tokV]
theorem toks_top {l : List Tok} {i : Nat} (h : i < l.length) : (toks l).getD i .top = tokV (l.getD i ⟨0, [], 0, 0⟩) := by
  simp [toks, List.getD_eq_getElem?_getD, List.getElem?_map, List.getElem?_eq_getElem h]
attribute [go_sem] ecn11_f ecn11_c ecn14_f ecn14_c lexK
theorem lexS_err {l : List UInt8} {ts : List Tok} {a e : Int} (h : lexS l = (ts, a, e)) (hl : l.length ≤ 1000) : (0 ≤ a ∧ a ≤ l.length) ∧ (e = 0 → a = 0) := by
  rw [lexS_R hl] at h
  have hr : ∀ (n : Nat) (l : List UInt8) (p : Nat), l.length < n → (lexR n l).2 = some p → p ≤ l.length := by
    intro n
    induction n with
    | zero => intro l p h; omega
    | succ n ih =>
      intro l p hn hp
      have hk := blk_le false l
      have hf := firstS_len (l.drop (blk false l))
      rw [lexR] at hp
      split at hp
      · cases hp
      · split at hp
        · cases hp; exact hk
        · rename_i h3
          have hw := hf.2 h3
          have hwl := hf.1
          simp only [List.length_drop] at hwl
          simp only [Option.map_eq_some_iff] at hp
          obtain ⟨q, h1, rfl⟩ := hp
          have := ih _ q (by simp only [List.length_drop]; omega) h1
          simp only [List.length_drop] at this
          omega
  generalize hq : lexR (l.length + 1) l = q at h
  obtain ⟨tq, oq⟩ := q
  cases oq with
  | none => simp only [outR] at h; cases h; exact ⟨⟨by omega, by omega⟩, fun _ => rfl⟩
  | some p =>
    have := hr (l.length + 1) l p (by omega) (by rw [hq])
    simp only [outR] at h; cases h
    exact ⟨⟨by omega, by omega⟩, fun h => by cases h⟩
theorem lexR_bd : ∀ (n : Nat) (l : List UInt8), l.length < n → ∀ t ∈ (lexR n l).1, (0 ≤ t.line ∧ t.line ≤ l.length) ∧ 0 ≤ t.at_ ∧ t.at_ ≤ l.length
  | 0, _, h => absurd h (by omega)
  | n + 1, l, h => by
    have hk := blk_le false l
    have hf := firstS_len (l.drop (blk false l))
    have hn := nls_le (l.take (blk false l))
    rw [List.length_take] at hn
    rw [lexR]
    split
    · intro t ht; cases ht
    · split
      · intro t ht; cases ht
      · rename_i h3
        have hw := hf.2 h3
        have hwl := hf.1
        simp only [List.length_drop] at hwl
        intro t ht
        simp only [List.mem_cons, List.mem_map] at ht
        rcases ht with rfl | ⟨u, hu, rfl⟩
        · simp only; omega
        · have := lexR_bd n _ (by simp only [List.length_drop]; omega) u hu
          simp only [List.length_drop] at this
          simp only [sh]; omega
theorem lexS_bd {l : List UInt8} (h : l.length ≤ 1000) : ∀ t ∈ (lexS l).1, (0 ≤ t.line ∧ t.line ≤ 1001) ∧ 0 ≤ t.at_ ∧ t.at_ ≤ 1000 := by
  have hb := lexR_bd (l.length + 1) l (by omega)
  rw [lexS_R h]
  generalize lexR (l.length + 1) l = q at hb
  obtain ⟨ts, o⟩ := q
  cases o with
  | some p => intro t ht; simp [outR] at ht
  | none =>
    intro t ht
    simp only [outR, List.nil_append, List.mem_map] at ht
    obtain ⟨u, hu, rfl⟩ := ht
    have := hb u hu
    simp only [sh]; omega
theorem getD_mem {α : Type} (d : α) {l : List α} {i : Nat} (h : i < l.length) : l.getD i d ∈ l := by
  rw [List.getD_eq_getElem?_getD, List.getElem?_eq_getElem h]; exact List.getElem_mem h
/-- Tokens of which the first ones are moved. -/
def ysh (tb : List Tok) (x y : Int) (i : Nat) : List Tok := (tb.take i).map (sh x y) ++ tb.drop i
theorem ysh_0 (tb : List Tok) (x y : Int) : ysh tb x y 0 = tb := by simp [ysh]
theorem ysh_len (tb : List Tok) (x y : Int) (i : Nat) : (ysh tb x y i).length = tb.length := by simp [ysh]; omega
theorem ysh_all (tb : List Tok) (x y : Int) : ysh tb x y tb.length = tb.map (sh x y) := by simp [ysh]
theorem ysh_get {tb : List Tok} {x y : Int} {i : Nat} (h : i < tb.length) : (ysh tb x y i).getD i ⟨0, [], 0, 0⟩ = tb.getD i ⟨0, [], 0, 0⟩ := by
  have hl : ((tb.take i).map (sh x y)).length = i := by simp; omega
  simp only [ysh, List.getD_eq_getElem?_getD]
  rw [List.getElem?_append_right (by omega), hl, Nat.sub_self, List.getElem?_drop, Nat.add_zero]
theorem ysh_set {tb : List Tok} {x y : Int} {i : Nat} (h : i < tb.length) : (ysh tb x y i).set i (sh x y (tb.getD i ⟨0, [], 0, 0⟩)) = ysh tb x y (i + 1) := by
  have hl : ((tb.take i).map (sh x y)).length = i := by simp; omega
  have e : tb.take (i + 1) = tb.take i ++ [tb.getD i ⟨0, [], 0, 0⟩] := by
    rw [List.take_add_one, List.getD_eq_getElem?_getD, List.getElem?_eq_getElem h]; rfl
  simp only [ysh]
  rw [List.set_append_right _ _ (by omega), hl, Nat.sub_self, drop_tok h, List.set_cons_zero, e, List.map_append]
  simp
structure Lq (a : List UInt8) where
  i : Nat
  line : Nat
  v1 : Nat
  v2 : Nat
  v3 : Nat
  hi : i ≤ a.length
  hline : line = 1 + nls (a.take i)
set_option maxHeartbeats 8000000 in
theorem law7 {s t : ByteArray} : PC Tryd.prog 7 [.lit (.string s), .lit (.string t)] (.lit (.bool true)) := by
  obtain ⟨a, rfl⟩ := bs_ex s
  obtain ⟨b, rfl⟩ := bs_ex t
  cases h1 : (decide ((a.length : Int) > 200) || decide ((b.length : Int) > 200)) with
  | true =>
    refine pc_ofR E33_ok mixed (kp7) (rs := [.tmp 4]) Tryd.func7 rfl (by kernel_rfl) (by kernel_rfl) (Nat.le_of_ble_eq_true rfl) ?_
    simp only [initF_cons, initF_nil, Nat.reduceAdd]
    refine t_name fun KF => ?_
    unfold E33
    repeat' (first
     | (with_reducible first | refine t_seq fun K => ?_ | refine t_block ?_ | refine t_scope ?_ | refine t_label ?_ | refine t_skip ?_ | refine t_exit ?_ | refine t_ret ?_ | refine t_k ?_ | refine t_gF ?_ | exact kp_nil | exact Kp.refl _ | exact kp_to | refine kp_cons ?_ | refine kp_arr ?_ | refine kp_app ?_ | refine t_p ?_ | refine t_br (fun hc => ?_) fun hc => ?_)
     | ((with_reducible first | refine t_kE (t_openE ?_) | refine t_kD (t_openD ?_) | refine t_kE ?_ | refine t_kD ?_ | refine t_gS ?_ | refine t_kL ?_ | refine t_kLF ?_ ?_ | refine t_region fun K => ?_ | refine t_cond fun A B => ?_ | refine t_drawE (id := 21) (fun _ => true) [(0, 1), (1, 1), (2, 1), (3, 1), (4, 1), (5, 1), (9, 1), (11, 1), (12, 1), (16, 1), (17, 1), (6, 2), (7, 2), (8, 2), (10, 1), (13, 2), (14, 2), (15, 2), (18, 1), (19, 1), (20, 2), (21, 2), (22, 0), (23, 2), (24, 2), (25, 0)] (by kernel_rfl) fun K => ?_ | refine t_draw (by kernel_rfl) fun K => ?_); (try (first | refine t_hideE fun KL => ?_ | refine t_hideD fun KL => ?_)); simp only [go_sem, geff, kp7, h1])
     | ((with_reducible refine kp_skip ?_ ?_); rfl) | simp only [thenQ, blockQ, scopeQ, Nat.reduceEqDiff, reduceIte] | (with_reducible first | refine And.intro ?_ ?_ | intro vr))
    all_goals try (first | (with_reducible assumption) | (intros; (try simp only [Bool.and_eq_true, Bool.or_eq_true, Bool.or_eq_false_iff, Bool.not_eq_true', Bool.not_eq_false', decide_eq_true_eq, decide_eq_false_iff_not, beq_iff_eq, beq_eq_false_iff_ne, bne_iff_ne, bne_eq_false_iff_eq, ne_eq, inI64, List.length_append] at *) <;> omega) | (intros; (with_reducible first | refine impB_ofR ?_ | refine and_ofB ?_ ?_) <;> with_reducible first | assumption | (refine impB_ofR ?_; assumption)) | ((try simp only [Bool.and_eq_true] at vr); simp only [impB, vr, Bool.or_true, Bool.true_or, Bool.and_self, Bool.not_true, Bool.not_false, Bool.and_true]; done))
    all_goals ((first | refine end_retE ?_ | refine end_normE ?_); simp only [fin, go_sem])
    exact LeA.refl _
  | false =>
    have h1' := h1
    simp only [Bool.or_eq_false_iff, decide_eq_false_iff_not] at h1'
    have ha : a.length ≤ 200 := by omega
    have hb : b.length ≤ 200 := by omega
    obtain ⟨p1, p2, p3⟩ := lex_parts ha hb
    have hla := lexS_len a
    have hlb := lexS_len b
    have hA : lexS a = ((lexS a).1, (lexS a).2.1, (lexS a).2.2) := rfl
    have hB : lexS b = ((lexS b).1, (lexS b).2.1, (lexS b).2.2) := rfl
    have eA := lexS_err hA (by omega)
    have eB := lexS_err hB (by omega)
    have hbb := lexS_bd (l := b) (by omega)
    generalize hqa : lexS a = qa at *
    generalize hqb : lexS b = qb at *
    obtain ⟨ta, na, ea⟩ := qa
    obtain ⟨tb, nb, eb⟩ := qb
    simp only at p1 p2 p3 hla hlb eA eB hbb
    have happ : a ++ [10] ++ b = a ++ 10 :: b := by simp
    by_cases h2 : ea = 0
    · subst h2
      obtain rfl := eA.2 rfl
      by_cases h3 : eb = 0
      · subst h3
        obtain rfl := eB.2 rfl
        have hC := p3 rfl rfl
        refine pc_ofR E33_ok mixed (kp7) (rs := [.tmp 4]) Tryd.func7 rfl (by kernel_rfl) (by kernel_rfl) (Nat.le_of_ble_eq_true rfl) ?_
        simp only [initF_cons, initF_nil, Nat.reduceAdd]
        refine t_name fun KF => ?_
        unfold E33
        repeat' (first
          | with_reducible refine t_seq fun K => ?_
          | with_reducible refine t_block ?_
          | with_reducible refine t_scope ?_
          | with_reducible refine t_label ?_
          | with_reducible refine t_skip ?_
          | with_reducible refine t_exit ?_
          | with_reducible refine t_ret ?_
          | with_reducible refine t_k ?_
          | (with_reducible refine t_gF ?_)
          | ((first | with_reducible refine t_kE (t_openE ?_) | with_reducible refine t_kD (t_openD ?_) | with_reducible refine t_kE ?_ | with_reducible refine t_kD ?_ | with_reducible refine t_gS ?_ | with_reducible refine t_kL ?_ | (with_reducible refine t_kLE ?_ ?_; rotate_left) | with_reducible refine t_region fun K => ?_ | with_reducible refine t_drawE (id := 21) (fun _ => true) [(0, 1), (1, 1), (2, 1), (3, 1), (4, 1), (5, 1), (9, 1), (11, 1), (12, 1), (16, 1), (17, 1), (6, 2), (7, 2), (8, 2), (10, 1), (13, 2), (14, 2), (15, 2), (18, 1), (19, 1), (20, 2), (21, 2), (22, 0), (23, 2), (24, 2), (25, 0)] (by kernel_rfl) fun K => ?_ | with_reducible refine t_draw (by kernel_rfl) fun K => ?_); (try (first | refine t_hideE fun KL => ?_ | refine t_hideD fun KL => ?_)); simp only [go_sem, geff_true, geff_false, kp7, h1, happ, hqa, hqb, hC])
          | (with_reducible exact kp_nil)
          | (with_reducible exact Kp.refl _)
          | (with_reducible exact kp_to)
          | (with_reducible refine kp_cons ?_)
          | (with_reducible refine kp_arr ?_)
          | (with_reducible refine kp_app ?_)
          | ((with_reducible refine kp_skip ?_ ?_); rfl)
          | ((with_reducible refine t_cond fun A B => ?_); simp only [go_sem, geff_true, geff_false, kp7, h1, happ, hqa, hqb, hC]; first | (with_reducible refine A.h ?_) | (with_reducible refine B.h ?_) | (refine And.intro (fun hc => A.h ?_) (fun hc => B.h ?_)))
          | ((with_reducible refine t_geffS (fun hg => ?_) (fun hg => ?_)) <;> ((try simp only [Bool.not_eq_true', Bool.not_eq_false', Bool.and_eq_true, Bool.or_eq_false_iff] at hg); simp only [hg, go_sem, geff_true, geff_false, kp7, h1, happ, hqa, hqb, hC]))
          | simp only [thenQ_n, thenQ_r, thenQ_e, blockQ_n, blockQ_r, blockQ_e, scopeQ_n, scopeQ_r, scopeQ_e, Nat.reduceEqDiff, reduceIte]
          | (with_reducible refine And.intro ?_ ?_)
          | with_reducible intro vr)
        all_goals try (first | (with_reducible assumption) | (intros; (try simp only [Bool.and_eq_true, Bool.or_eq_true, Bool.or_eq_false_iff, Bool.not_eq_true', Bool.not_eq_false', decide_eq_true_eq, decide_eq_false_iff_not, beq_iff_eq, beq_eq_false_iff_ne, bne_iff_ne, bne_eq_false_iff_eq, ne_eq, inI64, List.length_append, List.length_cons] at *) <;> omega) | (intros; (with_reducible first | refine impB_ofR ?_ | refine and_ofB ?_ ?_) <;> with_reducible first | assumption | (refine impB_ofR ?_; assumption)) | ((try simp only [Bool.and_eq_true] at vr); simp only [impB, vr, Bool.or_true, Bool.true_or, Bool.and_self, Bool.not_true, Bool.not_false, Bool.and_true]; done))
        have hnl : ∀ j, nls (a.take j) ≤ j := fun j => by
          have := nls_le (a.take j)
          simp at this; omega
        refine t_loopF (ι := Lq a) (fun i => [(15, .lit (.int .i64 i.i)), (14, .lit (.int .i64 i.line)), (5, .arr 0 i.v1), (8, .arr 1 i.v2), (11, .arr 2 i.v3)])
          (fun i => [.arr 36 4 (toks ta) i.v1 false, .arr 36 4 (toks tb) i.v2 false, .arr 36 4 (toks (ta ++ tb.map (sh (1 + nls a : Nat) (a.length + 1 : Nat)))) i.v3 false]) (fun i => a.length - i.i) ⟨0, 1, ?v1, ?v2, ?v3, by omega, by simp [nls]⟩ ?_ ?_
        case refine_1 =>
          simp only [updL_nil, updL_cons, delF_top, delF_upd, Nat.reduceEqDiff, reduceIte]
          refine Le.frameS (by first | rfl | (simp only [go_sem]; try rfl)) ?_
          repeat' (first | exact leF_top _ | exact (fun _ => LeR.refl _) | (with_reducible refine leF_sl ?_ ?_) | (refine leF_upd ?_ ?_))
          all_goals (first | exact LeR.top _ | exact LeR.refl _ | (refine LeR.of_eq ?_; (try simp only [go_sem]); try rfl) | ((try simp only [go_sem]); try rfl))
        rintro ⟨i, line, v1, v2, v3, hi, hline⟩ K0
        have hni := hnl i
        rcases Nat.lt_or_ge i a.length with hlt | hge
        · have g5 : decide ((i : Int) < (a.length : Int)) = true := decide_eq_true (by omega)
          have hst := nls_step (l := a) (f := 0) (j := i) (by omega) hlt
          simp only [List.drop_zero] at hst
          cases h5 : (a.getD i 0 == 10) with
          | true =>
            rw [h5, if_pos rfl] at hst
            repeat' (first
             | (with_reducible first | refine t_seq fun K => ?_ | refine t_block ?_ | refine t_scope ?_ | refine t_label ?_ | refine t_skip ?_ | refine t_exit ?_ | refine t_ret ?_ | refine t_k ?_ | refine t_gF ?_ | exact kp_nil | exact Kp.refl _ | exact kp_to | refine kp_cons ?_ | refine kp_arr ?_ | refine kp_app ?_ | refine t_p ?_ | refine t_br (fun hc => ?_) fun hc => ?_)
             | ((with_reducible first | refine t_kE (t_openE ?_) | refine t_kD (t_openD ?_) | refine t_kE ?_ | refine t_kD ?_ | refine t_gS ?_ | refine t_kL ?_ | refine t_kLF ?_ ?_ | refine t_region fun K => ?_ | refine t_cond fun A B => ?_ | refine t_drawE (id := 21) (fun _ => true) [(0, 1), (1, 1), (2, 1), (3, 1), (4, 1), (5, 1), (9, 1), (11, 1), (12, 1), (16, 1), (17, 1), (6, 2), (7, 2), (8, 2), (10, 1), (13, 2), (14, 2), (15, 2), (18, 1), (19, 1), (20, 2), (21, 2), (22, 0), (23, 2), (24, 2), (25, 0)] (by kernel_rfl) fun K => ?_ | refine t_draw (by kernel_rfl) fun K => ?_); (try (first | refine t_hideE fun KL => ?_ | refine t_hideD fun KL => ?_)); simp only [go_sem, geff, kp7, updL_cons, updL_nil, Int.toNat_natCast, bt10, h5, g5])
             | ((with_reducible refine kp_skip ?_ ?_); rfl) | simp only [thenQ, blockQ, scopeQ, Nat.reduceEqDiff, reduceIte] | (with_reducible first | refine And.intro ?_ ?_ | intro vr))
            all_goals try (first | (with_reducible assumption) | (intros; (try simp only [Bool.and_eq_true, Bool.or_eq_true, Bool.or_eq_false_iff, Bool.not_eq_true', Bool.not_eq_false', decide_eq_true_eq, decide_eq_false_iff_not, beq_iff_eq, beq_eq_false_iff_ne, bne_iff_ne, bne_eq_false_iff_eq, ne_eq, inI64, List.length_append] at *) <;> omega) | (intros; (with_reducible first | refine impB_ofR ?_ | refine and_ofB ?_ ?_) <;> with_reducible first | assumption | (refine impB_ofR ?_; assumption)) | ((try simp only [Bool.and_eq_true] at vr); simp only [impB, vr, Bool.or_true, Bool.true_or, Bool.and_self, Bool.not_true, Bool.not_false, Bool.and_true]; done))
            refine ⟨⟨i + 1, line + 1, v1, v2, v3, by omega, by omega⟩, by first | (simp only; omega) | omega, ?_⟩
            simp only [updL_nil, updL_cons, delF_top, delF_upd, Nat.reduceEqDiff, reduceIte]
            refine Le.frameS (by first | rfl | (simp only [go_sem]; try rfl)) ?_
            repeat' (first | exact leF_top _ | exact (fun _ => LeR.refl _) | (with_reducible refine leF_sl ?_ ?_) | (refine leF_upd ?_ ?_))
            all_goals (first | exact LeR.top _ | exact LeR.refl _ | (refine LeR.of_eq ?_; (try simp only [go_sem]); try rfl) | ((try simp only [go_sem]); try rfl))
          | false =>
            rw [h5, if_neg (by simp)] at hst
            repeat' (first
             | (with_reducible first | refine t_seq fun K => ?_ | refine t_block ?_ | refine t_scope ?_ | refine t_label ?_ | refine t_skip ?_ | refine t_exit ?_ | refine t_ret ?_ | refine t_k ?_ | refine t_gF ?_ | exact kp_nil | exact Kp.refl _ | exact kp_to | refine kp_cons ?_ | refine kp_arr ?_ | refine kp_app ?_ | refine t_p ?_ | refine t_br (fun hc => ?_) fun hc => ?_)
             | ((with_reducible first | refine t_kE (t_openE ?_) | refine t_kD (t_openD ?_) | refine t_kE ?_ | refine t_kD ?_ | refine t_gS ?_ | refine t_kL ?_ | refine t_kLF ?_ ?_ | refine t_region fun K => ?_ | refine t_cond fun A B => ?_ | refine t_drawE (id := 21) (fun _ => true) [(0, 1), (1, 1), (2, 1), (3, 1), (4, 1), (5, 1), (9, 1), (11, 1), (12, 1), (16, 1), (17, 1), (6, 2), (7, 2), (8, 2), (10, 1), (13, 2), (14, 2), (15, 2), (18, 1), (19, 1), (20, 2), (21, 2), (22, 0), (23, 2), (24, 2), (25, 0)] (by kernel_rfl) fun K => ?_ | refine t_draw (by kernel_rfl) fun K => ?_); (try (first | refine t_hideE fun KL => ?_ | refine t_hideD fun KL => ?_)); simp only [go_sem, geff, kp7, updL_cons, updL_nil, Int.toNat_natCast, bt10, h5, g5])
             | ((with_reducible refine kp_skip ?_ ?_); rfl) | simp only [thenQ, blockQ, scopeQ, Nat.reduceEqDiff, reduceIte] | (with_reducible first | refine And.intro ?_ ?_ | intro vr))
            all_goals try (first | (with_reducible assumption) | (intros; (try simp only [Bool.and_eq_true, Bool.or_eq_true, Bool.or_eq_false_iff, Bool.not_eq_true', Bool.not_eq_false', decide_eq_true_eq, decide_eq_false_iff_not, beq_iff_eq, beq_eq_false_iff_ne, bne_iff_ne, bne_eq_false_iff_eq, ne_eq, inI64, List.length_append] at *) <;> omega) | (intros; (with_reducible first | refine impB_ofR ?_ | refine and_ofB ?_ ?_) <;> with_reducible first | assumption | (refine impB_ofR ?_; assumption)) | ((try simp only [Bool.and_eq_true] at vr); simp only [impB, vr, Bool.or_true, Bool.true_or, Bool.and_self, Bool.not_true, Bool.not_false, Bool.and_true]; done))
            refine ⟨⟨i + 1, line, v1, v2, v3, by omega, by omega⟩, by first | (simp only; omega) | omega, ?_⟩
            simp only [updL_nil, updL_cons, delF_top, delF_upd, Nat.reduceEqDiff, reduceIte]
            refine Le.frameS (by first | rfl | (simp only [go_sem]; try rfl)) ?_
            repeat' (first | exact leF_top _ | exact (fun _ => LeR.refl _) | (with_reducible refine leF_sl ?_ ?_) | (refine leF_upd ?_ ?_))
            all_goals (first | exact LeR.top _ | exact LeR.refl _ | (refine LeR.of_eq ?_; (try simp only [go_sem]); try rfl) | ((try simp only [go_sem]); try rfl))
        · have g5 : decide ((i : Int) < (a.length : Int)) = false := decide_eq_false (by omega)
          have e : i = a.length := by omega
          subst e
          rw [List.take_length] at hline hni
          subst hline
          repeat' (first
           | (with_reducible first | refine t_seq fun K => ?_ | refine t_block ?_ | refine t_scope ?_ | refine t_label ?_ | refine t_skip ?_ | refine t_exit ?_ | refine t_ret ?_ | refine t_k ?_ | refine t_gF ?_ | exact kp_nil | exact Kp.refl _ | exact kp_to | refine kp_cons ?_ | refine kp_arr ?_ | refine kp_app ?_ | refine t_p ?_ | refine t_br (fun hc => ?_) fun hc => ?_)
           | ((with_reducible first | refine t_kE (t_openE ?_) | refine t_kD (t_openD ?_) | refine t_kE ?_ | refine t_kD ?_ | refine t_gS ?_ | refine t_kL ?_ | refine t_kLF ?_ ?_ | refine t_region fun K => ?_ | refine t_cond fun A B => ?_ | refine t_drawE (id := 21) (fun _ => true) [(0, 1), (1, 1), (2, 1), (3, 1), (4, 1), (5, 1), (9, 1), (11, 1), (12, 1), (16, 1), (17, 1), (6, 2), (7, 2), (8, 2), (10, 1), (13, 2), (14, 2), (15, 2), (18, 1), (19, 1), (20, 2), (21, 2), (22, 0), (23, 2), (24, 2), (25, 0)] (by kernel_rfl) fun K => ?_ | refine t_draw (by kernel_rfl) fun K => ?_); (try (first | refine t_hideE fun KL => ?_ | refine t_hideD fun KL => ?_)); simp only [go_sem, geff, kp7, updL_cons, updL_nil, Int.toNat_natCast, g5])
           | ((with_reducible refine kp_skip ?_ ?_); rfl) | simp only [thenQ, blockQ, scopeQ, Nat.reduceEqDiff, reduceIte] | (with_reducible first | refine And.intro ?_ ?_ | intro vr))
          all_goals try (first | (with_reducible assumption) | (intros; (try simp only [Bool.and_eq_true, Bool.or_eq_true, Bool.or_eq_false_iff, Bool.not_eq_true', Bool.not_eq_false', decide_eq_true_eq, decide_eq_false_iff_not, beq_iff_eq, beq_eq_false_iff_ne, bne_iff_ne, bne_eq_false_iff_eq, ne_eq, inI64, List.length_append] at *) <;> omega) | (intros; (with_reducible first | refine impB_ofR ?_ | refine and_ofB ?_ ?_) <;> with_reducible first | assumption | (refine impB_ofR ?_; assumption)) | ((try simp only [Bool.and_eq_true] at vr); simp only [impB, vr, Bool.or_true, Bool.true_or, Bool.and_self, Bool.not_true, Bool.not_false, Bool.and_true]; done))
          refine t_loopF (ι := { i : Nat // i ≤ tb.length }) (fun i => [(16, .lit (.int .i64 i.1))]) (fun i => [.arr 36 4 (toks ta) v1 false, .arr 36 4 (toks (ysh tb (1 + nls a : Nat) (a.length + 1 : Nat) i.1)) v2 false, .arr 36 4 (toks (ta ++ tb.map (sh (1 + nls a : Nat) (a.length + 1 : Nat)))) v3 false]) (fun i => tb.length - i.1) ⟨0, by omega⟩ ?_ ?_
          · simp only [updL_nil, updL_cons, delF_top, delF_upd, Nat.reduceEqDiff, reduceIte]
            refine Le.frameS (by first | rfl | (simp only [go_sem]; try rfl)) ?_
            repeat' (first | exact leF_top _ | exact (fun _ => LeR.refl _) | (with_reducible refine leF_sl ?_ ?_) | (refine leF_upd ?_ ?_))
            all_goals (first | exact LeR.top _ | exact LeR.refl _ | (refine LeR.of_eq ?_; (try simp only [go_sem]); try rfl) | ((try simp only [go_sem]); try rfl))
          rintro ⟨i, hi⟩ K1
          rcases Nat.lt_or_ge i tb.length with hlt | hge2
          · have g6 : decide ((i : Int) < (tb.length : Int)) = true := decide_eq_true (by omega)
            have hys := ysh_get (x := (1 + nls a : Nat)) (y := (a.length + 1 : Nat)) hlt
            have hset := ysh_set (x := (1 + nls a : Nat)) (y := (a.length + 1 : Nat)) hlt
            have hyl := ysh_len tb (1 + nls a : Nat) (a.length + 1 : Nat) i
            have hxb := hbb _ (getD_mem ⟨0, [], 0, 0⟩ hlt)
            have ht1 := toks_top (l := ysh tb (1 + nls a : Nat) (a.length + 1 : Nat) i) (i := i) (by omega)
            generalize hyx : ysh tb (1 + nls a : Nat) (a.length + 1 : Nat) i = ys at *
            generalize hx : tb.getD i ⟨0, [], 0, 0⟩ = x at *
            have ht2 : ∀ z : Tok, (toks (ys.set i z)).getD i .top = tokV z := fun z => by
              rw [toks_top (by simp; omega)]
              congr 1
              rw [List.getD_eq_getElem?_getD, List.getElem?_set_self (by omega)]; rfl
            have ht3 : ∀ z : Tok, (ys.set i z).getD i ⟨0, [], 0, 0⟩ = z := fun z => by
              rw [List.getD_eq_getElem?_getD, List.getElem?_set_self (by omega)]; rfl
            have hfin : ys.set i ⟨x.k, x.t, x.line + ((1 + nls a : Nat) : Int), x.at_ + (a.length : Int) + 1⟩ = ysh tb (1 + nls a : Nat) (a.length + 1 : Nat) (i + 1) := by
              rw [← hset]; congr 1; simp only [sh]; congr 1; push_cast; omega
            repeat' (first
             | (with_reducible first | refine t_seq fun K => ?_ | refine t_block ?_ | refine t_scope ?_ | refine t_label ?_ | refine t_skip ?_ | refine t_exit ?_ | refine t_ret ?_ | refine t_k ?_ | refine t_gF ?_ | exact kp_nil | exact Kp.refl _ | exact kp_to | refine kp_cons ?_ | refine kp_arr ?_ | refine kp_app ?_ | refine t_p ?_ | refine t_br (fun hc => ?_) fun hc => ?_)
             | ((with_reducible first | refine t_kE (t_openE ?_) | refine t_kD (t_openD ?_) | refine t_kE ?_ | refine t_kD ?_ | refine t_gS ?_ | refine t_kL ?_ | refine t_kLF ?_ ?_ | refine t_region fun K => ?_ | refine t_cond fun A B => ?_ | refine t_drawE (id := 21) (fun _ => true) [(0, 1), (1, 1), (2, 1), (3, 1), (4, 1), (5, 1), (9, 1), (11, 1), (12, 1), (16, 1), (17, 1), (6, 2), (7, 2), (8, 2), (10, 1), (13, 2), (14, 2), (15, 2), (18, 1), (19, 1), (20, 2), (21, 2), (22, 0), (23, 2), (24, 2), (25, 0)] (by kernel_rfl) fun K => ?_ | refine t_draw (by kernel_rfl) fun K => ?_); (try (first | refine t_hideE fun KL => ?_ | refine t_hideD fun KL => ?_)); simp only [go_sem, geff, kp7, updL_cons, updL_nil, Int.toNat_natCast, g6, hyl, hys, tokV, ht1, ht2, ht3, toks_set, yes, hfin])
             | ((with_reducible refine kp_skip ?_ ?_); rfl) | simp only [thenQ, blockQ, scopeQ, Nat.reduceEqDiff, reduceIte] | (with_reducible first | refine And.intro ?_ ?_ | intro vr))
            all_goals try (first | (with_reducible assumption) | (intros; (try simp only [Bool.and_eq_true, Bool.or_eq_true, Bool.or_eq_false_iff, Bool.not_eq_true', Bool.not_eq_false', decide_eq_true_eq, decide_eq_false_iff_not, beq_iff_eq, beq_eq_false_iff_ne, bne_iff_ne, bne_eq_false_iff_eq, ne_eq, inI64, List.length_append] at *) <;> omega) | (intros; (with_reducible first | refine impB_ofR ?_ | refine and_ofB ?_ ?_) <;> with_reducible first | assumption | (refine impB_ofR ?_; assumption)) | ((try simp only [Bool.and_eq_true] at vr); simp only [impB, vr, Bool.or_true, Bool.true_or, Bool.and_self, Bool.not_true, Bool.not_false, Bool.and_true]; done))
            refine ⟨⟨i + 1, by omega⟩, by first | (simp only; omega) | omega, ?_⟩
            simp only [updL_nil, updL_cons, delF_top, delF_upd, Nat.reduceEqDiff, reduceIte]
            refine Le.frameS (by first | rfl | (simp only [go_sem]; try rfl)) ?_
            repeat' (first | exact leF_top _ | exact (fun _ => LeR.refl _) | (with_reducible refine leF_sl ?_ ?_) | (refine leF_upd ?_ ?_))
            all_goals (first | exact LeR.top _ | exact LeR.refl _ | (refine LeR.of_eq ?_; (try simp only [go_sem]); try rfl) | ((try simp only [go_sem]); try rfl))
          · have g6 : decide ((i : Int) < (tb.length : Int)) = false := decide_eq_false (by omega)
            have e : i = tb.length := by omega
            subst e
            have d1 : decide (ta ++ tb.map (sh (1 + nls a : Nat) (a.length + 1 : Nat)) = ta ++ tb.map (sh (1 + nls a : Nat) (a.length + 1 : Nat))) = true := decide_eq_true rfl
            have hya := ysh_all tb (1 + nls a : Nat) (a.length + 1 : Nat)
            have happ2 : ∀ l m : List Tok, toks l ++ toks m = toks (l ++ m) := fun l m => by simp [toks]
            repeat' (first
              | with_reducible refine t_seq fun K => ?_
              | with_reducible refine t_block ?_
              | with_reducible refine t_scope ?_
              | with_reducible refine t_label ?_
              | with_reducible refine t_skip ?_
              | with_reducible refine t_exit ?_
              | with_reducible refine t_ret ?_
              | with_reducible refine t_k ?_
              | (with_reducible refine t_gF ?_)
              | ((first | with_reducible refine t_kE (t_openE ?_) | with_reducible refine t_kD (t_openD ?_) | with_reducible refine t_kE ?_ | with_reducible refine t_kD ?_ | with_reducible refine t_gS ?_ | with_reducible refine t_kL ?_ | (with_reducible refine t_kLE ?_ ?_; rotate_left) | with_reducible refine t_region fun K => ?_ | with_reducible refine t_drawE (id := 21) (fun _ => true) [(0, 1), (1, 1), (2, 1), (3, 1), (4, 1), (5, 1), (9, 1), (11, 1), (12, 1), (16, 1), (17, 1), (6, 2), (7, 2), (8, 2), (10, 1), (13, 2), (14, 2), (15, 2), (18, 1), (19, 1), (20, 2), (21, 2), (22, 0), (23, 2), (24, 2), (25, 0)] (by kernel_rfl) fun K => ?_ | with_reducible refine t_draw (by kernel_rfl) fun K => ?_); (try (first | refine t_hideE fun KL => ?_ | refine t_hideD fun KL => ?_)); simp only [go_sem, geff_true, geff_false, kp7, updL_cons, updL_nil, Int.toNat_natCast, g6, ysh_len, hya, happ2, d1, hC])
              | (with_reducible exact kp_nil)
              | (with_reducible exact Kp.refl _)
              | (with_reducible exact kp_to)
              | (with_reducible refine kp_cons ?_)
              | (with_reducible refine kp_arr ?_)
              | (with_reducible refine kp_app ?_)
              | ((with_reducible refine kp_skip ?_ ?_); rfl)
              | ((with_reducible refine t_cond fun A B => ?_); simp only [go_sem, geff_true, geff_false, kp7, updL_cons, updL_nil, Int.toNat_natCast, g6, ysh_len, hya, happ2, d1, hC]; first | (with_reducible refine A.h ?_) | (with_reducible refine B.h ?_) | (refine And.intro (fun hc => A.h ?_) (fun hc => B.h ?_)))
              | ((with_reducible refine t_geffS (fun hg => ?_) (fun hg => ?_)) <;> ((try simp only [Bool.not_eq_true', Bool.not_eq_false', Bool.and_eq_true, Bool.or_eq_false_iff] at hg); simp only [hg, go_sem, geff_true, geff_false, kp7, updL_cons, updL_nil, Int.toNat_natCast, g6, ysh_len, hya, happ2, d1, hC]))
              | simp only [thenQ_n, thenQ_r, thenQ_e, blockQ_n, blockQ_r, blockQ_e, scopeQ_n, scopeQ_r, scopeQ_e, Nat.reduceEqDiff, reduceIte]
              | (with_reducible refine And.intro ?_ ?_)
              | with_reducible intro vr)
            all_goals try (first | (with_reducible assumption) | (intros; (try simp only [Bool.and_eq_true, Bool.or_eq_true, Bool.or_eq_false_iff, Bool.not_eq_true', Bool.not_eq_false', decide_eq_true_eq, decide_eq_false_iff_not, beq_iff_eq, beq_eq_false_iff_ne, bne_iff_ne, bne_eq_false_iff_eq, ne_eq, inI64, List.length_append, List.length_map] at *) <;> omega) | (intros; (with_reducible first | refine impB_ofR ?_ | refine and_ofB ?_ ?_) <;> with_reducible first | assumption | (refine impB_ofR ?_; assumption)) | ((try simp only [Bool.and_eq_true] at vr); simp only [impB, vr, Bool.or_true, Bool.true_or, Bool.and_self, Bool.not_true, Bool.not_false, Bool.and_true]; done))
            all_goals ((first | refine end_retE ?_ | refine end_normE ?_); simp only [fin, go_sem])
            exact LeA.refl _
      · have hC := p2 rfl h3
        have g3 : (eb != 0) = true := by rw [bne_iff_ne]; exact h3
        have d2 : ∀ n : Int, (n == n) = true := fun n => beq_self_eq_true n
        refine pc_ofR E33_ok mixed (kp7) (rs := [.tmp 4]) Tryd.func7 rfl (by kernel_rfl) (by kernel_rfl) (Nat.le_of_ble_eq_true rfl) ?_
        simp only [initF_cons, initF_nil, Nat.reduceAdd]
        refine t_name fun KF => ?_
        unfold E33
        repeat' (first
          | with_reducible refine t_seq fun K => ?_
          | with_reducible refine t_block ?_
          | with_reducible refine t_scope ?_
          | with_reducible refine t_label ?_
          | with_reducible refine t_skip ?_
          | with_reducible refine t_exit ?_
          | with_reducible refine t_ret ?_
          | with_reducible refine t_k ?_
          | (with_reducible refine t_gF ?_)
          | ((first | with_reducible refine t_kE (t_openE ?_) | with_reducible refine t_kD (t_openD ?_) | with_reducible refine t_kE ?_ | with_reducible refine t_kD ?_ | with_reducible refine t_gS ?_ | with_reducible refine t_kL ?_ | (with_reducible refine t_kLE ?_ ?_; rotate_left) | with_reducible refine t_region fun K => ?_ | with_reducible refine t_drawE (id := 21) (fun _ => true) [(0, 1), (1, 1), (2, 1), (3, 1), (4, 1), (5, 1), (9, 1), (11, 1), (12, 1), (16, 1), (17, 1), (6, 2), (7, 2), (8, 2), (10, 1), (13, 2), (14, 2), (15, 2), (18, 1), (19, 1), (20, 2), (21, 2), (22, 0), (23, 2), (24, 2), (25, 0)] (by kernel_rfl) fun K => ?_ | with_reducible refine t_draw (by kernel_rfl) fun K => ?_); (try (first | refine t_hideE fun KL => ?_ | refine t_hideD fun KL => ?_)); simp only [go_sem, geff_true, geff_false, kp7, h1, happ, hqa, hqb, hC, g3, h3, if_false, d2])
          | (with_reducible exact kp_nil)
          | (with_reducible exact Kp.refl _)
          | (with_reducible exact kp_to)
          | (with_reducible refine kp_cons ?_)
          | (with_reducible refine kp_arr ?_)
          | (with_reducible refine kp_app ?_)
          | ((with_reducible refine kp_skip ?_ ?_); rfl)
          | ((with_reducible refine t_cond fun A B => ?_); simp only [go_sem, geff_true, geff_false, kp7, h1, happ, hqa, hqb, hC, g3, h3, if_false, d2]; first | (with_reducible refine A.h ?_) | (with_reducible refine B.h ?_) | (refine And.intro (fun hc => A.h ?_) (fun hc => B.h ?_)))
          | ((with_reducible refine t_geffS (fun hg => ?_) (fun hg => ?_)) <;> ((try simp only [Bool.not_eq_true', Bool.not_eq_false', Bool.and_eq_true, Bool.or_eq_false_iff] at hg); simp only [hg, go_sem, geff_true, geff_false, kp7, h1, happ, hqa, hqb, hC, g3, h3, if_false, d2]))
          | simp only [thenQ_n, thenQ_r, thenQ_e, blockQ_n, blockQ_r, blockQ_e, scopeQ_n, scopeQ_r, scopeQ_e, Nat.reduceEqDiff, reduceIte]
          | (with_reducible refine And.intro ?_ ?_)
          | with_reducible intro vr)
        all_goals try (first | (with_reducible assumption) | (intros; (try simp only [Bool.and_eq_true, Bool.or_eq_true, Bool.or_eq_false_iff, Bool.not_eq_true', Bool.not_eq_false', decide_eq_true_eq, decide_eq_false_iff_not, beq_iff_eq, beq_eq_false_iff_ne, bne_iff_ne, bne_eq_false_iff_eq, ne_eq, inI64, List.length_append, List.length_cons] at *) <;> omega) | (intros; (with_reducible first | refine impB_ofR ?_ | refine and_ofB ?_ ?_) <;> with_reducible first | assumption | (refine impB_ofR ?_; assumption)) | ((try simp only [Bool.and_eq_true] at vr); simp only [impB, vr, Bool.or_true, Bool.true_or, Bool.and_self, Bool.not_true, Bool.not_false, Bool.and_true]; done))
        all_goals ((first | refine end_retE ?_ | refine end_normE ?_); simp only [fin, go_sem])
        exact LeA.refl _
    · have hC := p1 h2
      have g2 : (ea != 0) = true := by rw [bne_iff_ne]; exact h2
      have d2 : ∀ n : Int, (n == n) = true := fun n => beq_self_eq_true n
      by_cases h3 : eb = 0
      · subst h3
        obtain rfl := eB.2 rfl
        refine pc_ofR E33_ok mixed (kp7) (rs := [.tmp 4]) Tryd.func7 rfl (by kernel_rfl) (by kernel_rfl) (Nat.le_of_ble_eq_true rfl) ?_
        simp only [initF_cons, initF_nil, Nat.reduceAdd]
        refine t_name fun KF => ?_
        unfold E33
        repeat' (first
          | with_reducible refine t_seq fun K => ?_
          | with_reducible refine t_block ?_
          | with_reducible refine t_scope ?_
          | with_reducible refine t_label ?_
          | with_reducible refine t_skip ?_
          | with_reducible refine t_exit ?_
          | with_reducible refine t_ret ?_
          | with_reducible refine t_k ?_
          | (with_reducible refine t_gF ?_)
          | ((first | with_reducible refine t_kE (t_openE ?_) | with_reducible refine t_kD (t_openD ?_) | with_reducible refine t_kE ?_ | with_reducible refine t_kD ?_ | with_reducible refine t_gS ?_ | with_reducible refine t_kL ?_ | (with_reducible refine t_kLE ?_ ?_; rotate_left) | with_reducible refine t_region fun K => ?_ | with_reducible refine t_drawE (id := 21) (fun _ => true) [(0, 1), (1, 1), (2, 1), (3, 1), (4, 1), (5, 1), (9, 1), (11, 1), (12, 1), (16, 1), (17, 1), (6, 2), (7, 2), (8, 2), (10, 1), (13, 2), (14, 2), (15, 2), (18, 1), (19, 1), (20, 2), (21, 2), (22, 0), (23, 2), (24, 2), (25, 0)] (by kernel_rfl) fun K => ?_ | with_reducible refine t_draw (by kernel_rfl) fun K => ?_); (try (first | refine t_hideE fun KL => ?_ | refine t_hideD fun KL => ?_)); simp only [go_sem, geff_true, geff_false, kp7, h1, happ, hqa, hqb, hC, g2, h2, if_false, d2])
          | (with_reducible exact kp_nil)
          | (with_reducible exact Kp.refl _)
          | (with_reducible exact kp_to)
          | (with_reducible refine kp_cons ?_)
          | (with_reducible refine kp_arr ?_)
          | (with_reducible refine kp_app ?_)
          | ((with_reducible refine kp_skip ?_ ?_); rfl)
          | ((with_reducible refine t_cond fun A B => ?_); simp only [go_sem, geff_true, geff_false, kp7, h1, happ, hqa, hqb, hC, g2, h2, if_false, d2]; first | (with_reducible refine A.h ?_) | (with_reducible refine B.h ?_) | (refine And.intro (fun hc => A.h ?_) (fun hc => B.h ?_)))
          | ((with_reducible refine t_geffS (fun hg => ?_) (fun hg => ?_)) <;> ((try simp only [Bool.not_eq_true', Bool.not_eq_false', Bool.and_eq_true, Bool.or_eq_false_iff] at hg); simp only [hg, go_sem, geff_true, geff_false, kp7, h1, happ, hqa, hqb, hC, g2, h2, if_false, d2]))
          | simp only [thenQ_n, thenQ_r, thenQ_e, blockQ_n, blockQ_r, blockQ_e, scopeQ_n, scopeQ_r, scopeQ_e, Nat.reduceEqDiff, reduceIte]
          | (with_reducible refine And.intro ?_ ?_)
          | with_reducible intro vr)
        all_goals try (first | (with_reducible assumption) | (intros; (try simp only [Bool.and_eq_true, Bool.or_eq_true, Bool.or_eq_false_iff, Bool.not_eq_true', Bool.not_eq_false', decide_eq_true_eq, decide_eq_false_iff_not, beq_iff_eq, beq_eq_false_iff_ne, bne_iff_ne, bne_eq_false_iff_eq, ne_eq, inI64, List.length_append, List.length_cons] at *) <;> omega) | (intros; (with_reducible first | refine impB_ofR ?_ | refine and_ofB ?_ ?_) <;> with_reducible first | assumption | (refine impB_ofR ?_; assumption)) | ((try simp only [Bool.and_eq_true] at vr); simp only [impB, vr, Bool.or_true, Bool.true_or, Bool.and_self, Bool.not_true, Bool.not_false, Bool.and_true]; done))
        all_goals ((first | refine end_retE ?_ | refine end_normE ?_); simp only [fin, go_sem])
        exact LeA.refl _
      · skip
        refine pc_ofR E33_ok mixed (kp7) (rs := [.tmp 4]) Tryd.func7 rfl (by kernel_rfl) (by kernel_rfl) (Nat.le_of_ble_eq_true rfl) ?_
        simp only [initF_cons, initF_nil, Nat.reduceAdd]
        refine t_name fun KF => ?_
        unfold E33
        repeat' (first
          | with_reducible refine t_seq fun K => ?_
          | with_reducible refine t_block ?_
          | with_reducible refine t_scope ?_
          | with_reducible refine t_label ?_
          | with_reducible refine t_skip ?_
          | with_reducible refine t_exit ?_
          | with_reducible refine t_ret ?_
          | with_reducible refine t_k ?_
          | (with_reducible refine t_gF ?_)
          | ((first | with_reducible refine t_kE (t_openE ?_) | with_reducible refine t_kD (t_openD ?_) | with_reducible refine t_kE ?_ | with_reducible refine t_kD ?_ | with_reducible refine t_gS ?_ | with_reducible refine t_kL ?_ | (with_reducible refine t_kLE ?_ ?_; rotate_left) | with_reducible refine t_region fun K => ?_ | with_reducible refine t_drawE (id := 21) (fun _ => true) [(0, 1), (1, 1), (2, 1), (3, 1), (4, 1), (5, 1), (9, 1), (11, 1), (12, 1), (16, 1), (17, 1), (6, 2), (7, 2), (8, 2), (10, 1), (13, 2), (14, 2), (15, 2), (18, 1), (19, 1), (20, 2), (21, 2), (22, 0), (23, 2), (24, 2), (25, 0)] (by kernel_rfl) fun K => ?_ | with_reducible refine t_draw (by kernel_rfl) fun K => ?_); (try (first | refine t_hideE fun KL => ?_ | refine t_hideD fun KL => ?_)); simp only [go_sem, geff_true, geff_false, kp7, h1, happ, hqa, hqb, hC, g2, h2, h3, if_false, d2])
          | (with_reducible exact kp_nil)
          | (with_reducible exact Kp.refl _)
          | (with_reducible exact kp_to)
          | (with_reducible refine kp_cons ?_)
          | (with_reducible refine kp_arr ?_)
          | (with_reducible refine kp_app ?_)
          | ((with_reducible refine kp_skip ?_ ?_); rfl)
          | ((with_reducible refine t_cond fun A B => ?_); simp only [go_sem, geff_true, geff_false, kp7, h1, happ, hqa, hqb, hC, g2, h2, h3, if_false, d2]; first | (with_reducible refine A.h ?_) | (with_reducible refine B.h ?_) | (refine And.intro (fun hc => A.h ?_) (fun hc => B.h ?_)))
          | ((with_reducible refine t_geffS (fun hg => ?_) (fun hg => ?_)) <;> ((try simp only [Bool.not_eq_true', Bool.not_eq_false', Bool.and_eq_true, Bool.or_eq_false_iff] at hg); simp only [hg, go_sem, geff_true, geff_false, kp7, h1, happ, hqa, hqb, hC, g2, h2, h3, if_false, d2]))
          | simp only [thenQ_n, thenQ_r, thenQ_e, blockQ_n, blockQ_r, blockQ_e, scopeQ_n, scopeQ_r, scopeQ_e, Nat.reduceEqDiff, reduceIte]
          | (with_reducible refine And.intro ?_ ?_)
          | with_reducible intro vr)
        all_goals try (first | (with_reducible assumption) | (intros; (try simp only [Bool.and_eq_true, Bool.or_eq_true, Bool.or_eq_false_iff, Bool.not_eq_true', Bool.not_eq_false', decide_eq_true_eq, decide_eq_false_iff_not, beq_iff_eq, beq_eq_false_iff_ne, bne_iff_ne, bne_eq_false_iff_eq, ne_eq, inI64, List.length_append, List.length_cons] at *) <;> omega) | (intros; (with_reducible first | refine impB_ofR ?_ | refine and_ofB ?_ ?_) <;> with_reducible first | assumption | (refine impB_ofR ?_; assumption)) | ((try simp only [Bool.and_eq_true] at vr); simp only [impB, vr, Bool.or_true, Bool.true_or, Bool.and_self, Bool.not_true, Bool.not_false, Bool.and_true]; done))
        all_goals ((first | refine end_retE ?_ | refine end_normE ?_); simp only [fin, go_sem])
        exact LeA.refl _
theorem law7_law : ∀ xs, ShL Tryd.prog Tryd.f7.params.toList xs → PC Tryd.prog 7 xs (.lit (.bool true))
  | [x, y], h => by
    obtain ⟨s, rfl, _⟩ := shv_str u9 h.1
    obtain ⟨t, rfl, _⟩ := shv_str u9 h.2.1
    exact law7
  | [], h => h.elim
  | [_], h => h.2.elim
  | _ :: _ :: _ :: _, h => h.2.2.elim
end Go.Proofs.YtkkamgblakhmiaaDoor
