/- Tokens joined are the same tokens. -/
import Derived.Test.YtkkamgblakhmiaaDoorLF

set_option linter.all false

namespace Go.Proofs.YtkkamgblakhmiaaDoor
open Go Go.Fw

/-- Do two texts need a space in between? -/
def apartS (a b : List UInt8) : Bool := decide ((lexS (a ++ b)).2.2 ≠ 0) || !decide ((lexS (a ++ b)).1.map (·.t) = [a, b])
def sepS (p t : Tok) : List UInt8 := if t.line > p.line then [10] else if apartS p.t t.t = true then [32] else []
def joinT : Tok → List Tok → List UInt8
  | _, [] => []
  | p, t :: ts => sepS p t ++ (t.t ++ joinT t ts)
def joinS : List Tok → List UInt8
  | [] => []
  | t :: ts => t.t ++ joinT t ts
/-- A byte that ends each token. -/
def sepB (c : UInt8) : Prop := dgB c = false ∧ smB c = false ∧ ∀ y ∈ symL, c ∉ y
theorem sep10 : sepB 10 := ⟨by decide, by decide, by decide⟩
theorem sep32 : sepB 32 := ⟨by decide, by decide, by decide⟩
theorem run_sep {c : UInt8} (hc : dgB c = false ∧ smB c = false) (b : Bool) (d x : List UInt8) : runN b (d ++ c :: x) = runN b d := by
  induction d with
  | nil => simp [runN, hc.1, hc.2]
  | cons e d ih => rw [List.cons_append]; simp only [runN, ih]
theorem pre_sep {c : UInt8} {y d x : List UInt8} (h : c ∉ y) : y.isPrefixOf (d ++ c :: x) = y.isPrefixOf d := by
  induction y generalizing d with
  | nil => simp [List.isPrefixOf]
  | cons e y ih =>
    simp only [List.mem_cons, not_or] at h
    cases d with
    | nil => simp only [List.nil_append, List.isPrefixOf]; rw [show (e == c) = false by rw [beq_eq_false_iff_ne]; exact Ne.symm h.1]; rfl
    | cons f d => simp only [List.cons_append, List.isPrefixOf, ih h.2]
theorem find_congr {α : Type} {p q : α → Bool} {L : List α} (h : ∀ y ∈ L, p y = q y) : L.find? p = L.find? q := by
  induction L with
  | nil => rfl
  | cons y L ih =>
    simp only [List.find?_cons, h y (by simp)]
    rw [ih fun z hz => h z (by simp [hz])]
theorem first_sep {c : UInt8} (hc : sepB c) {d : List UInt8} (x : List UInt8) (h : d ≠ []) : firstS (d ++ c :: x) = firstS d := by
  cases d with
  | nil => exact absurd rfl h
  | cons e d =>
    have r1 := runN_le true (e :: d)
    have r2 := runN_le false (e :: d)
    have hs : symS (e :: d ++ c :: x) = symS (e :: d) := find_congr fun y hy => pre_sep (hc.2.2 y hy)
    rw [firstC (c := e) (l := d ++ c :: x) (m := e :: d ++ c :: x) rfl, firstC (m := e :: d) rfl, run_sep ⟨hc.1, hc.2.1⟩, run_sep ⟨hc.1, hc.2.1⟩, hs, List.take_append_of_le_length r1, List.take_append_of_le_length r2]
theorem pre_more {y d x : List UInt8} (h : y.length ≤ d.length) : y.isPrefixOf (d ++ x) = y.isPrefixOf d := by
  rw [Bool.eq_iff_iff, List.isPrefixOf_iff_prefix, List.isPrefixOf_iff_prefix]
  constructor
  · intro hp; exact List.prefix_of_prefix_length_le hp (List.prefix_append d x) h
  · intro hp; exact hp.trans (List.prefix_append d x)
theorem run_more {b : Bool} {w x : List UInt8} : runN b w < w.length → runN b (w ++ x) = runN b w := by
  induction w with
  | nil => intro h; simp [runN] at h
  | cons c w ih =>
    intro h
    rw [List.cons_append]
    simp only [runN] at h ⊢
    split
    · rename_i hc
      rw [if_pos hc] at h
      rw [ih (by simpa using h)]
    · rfl
theorem run_whole {b : Bool} {w x : List UInt8} : runN b w = w.length → runN b (w ++ x) = w.length + runN b x := by
  induction w with
  | nil => intro _; simp
  | cons c w ih =>
    intro h
    rw [List.cons_append]
    simp only [runN] at h ⊢
    split
    · rename_i hc
      rw [if_pos hc] at h
      rw [ih (by simpa using h)]; simp; omega
    · rename_i hc
      rw [if_neg hc] at h; simp at h
/-- What a token is by itself. -/
theorem first_alone {w r : List UInt8} {k : Int} (h : firstS (w ++ r) = (k, w)) (h0 : k ≠ 0) : firstS w = (k, w) := by
  have hl := (firstS_len (w ++ r)).2 (by rw [h]; exact h0)
  rw [h] at hl
  cases w with
  | nil => simp at hl
  | cons c w =>
    rw [firstC (c := c) (l := w ++ r) (m := c :: w ++ r) rfl] at h
    rw [firstC rfl]
    have key : ∀ b, (List.take (runN b (c :: w ++ r)) (c :: w ++ r)) = c :: w → runN b (c :: w) = (c :: w).length := fun b he => by
      have hr := runN_le b (c :: w ++ r)
      have hlen := congrArg List.length he
      rw [List.length_take, Nat.min_eq_left hr] at hlen
      rcases Nat.lt_or_eq_of_le (runN_le b (c :: w)) with h1 | h1
      · have := run_more (x := r) h1; omega
      · exact h1
    by_cases h1 : smB c = true
    · rw [if_pos h1] at h ⊢
      have hw : List.take (runN true (c :: w ++ r)) (c :: w ++ r) = c :: w := by
        split at h
        · exact (Prod.mk.inj h).2
        · split at h
          · exact (Prod.mk.inj h).2
          · exact absurd (Prod.mk.inj h).1.symm h0
      rw [hw] at h
      rw [key true hw, List.take_length]
      exact h
    · rw [if_neg h1] at h ⊢
      by_cases h2 : dgB c = true
      · rw [if_pos h2] at h ⊢
        have hw : List.take (runN false (c :: w ++ r)) (c :: w ++ r) = c :: w := by
          split at h
          · exact (Prod.mk.inj h).2
          · exact absurd (Prod.mk.inj h).1.symm h0
        rw [hw] at h
        rw [key false hw, List.take_length]
        exact h
      · rw [if_neg h2] at h ⊢
        cases hs : symS (c :: w ++ r) with
        | none => rw [hs] at h; exact absurd (Prod.mk.inj h).1.symm h0
        | some y =>
          rw [hs] at h
          have hy : y = c :: w := (Prod.mk.inj h).2
          have hm := List.mem_of_find?_eq_some hs
          have : symS (c :: w) = some y := by
            unfold symS at hs ⊢
            rw [hy] at hs hm ⊢
            have hle : ∀ p q : List UInt8 → Bool, (∀ z, q z = true → p z = true) → q (c :: w) = true → symL.find? p = some (c :: w) → symL.find? q = some (c :: w) := by
              intro p q hpq hq
              generalize symL = L
              induction L with
              | nil => intro h; cases h
              | cons z L ih =>
                intro h
                simp only [List.find?_cons] at h ⊢
                cases hqz : q z with
                | true => rw [hpq z hqz] at h; exact h
                | false =>
                  simp only
                  cases hpz : p z with
                  | true => rw [hpz] at h; cases h; rw [hq] at hqz; cases hqz
                  | false => rw [hpz] at h; exact ih h
            refine hle _ _ (fun z hz => ?_) ?_ hs
            · exact List.isPrefixOf_iff_prefix.2 ((List.isPrefixOf_iff_prefix.1 hz).trans (List.prefix_append _ _))
            · exact List.isPrefixOf_iff_prefix.2 (List.prefix_refl _)
          rw [this]; exact h
/-- What ends a token is the byte behind it alone. -/
theorem first_next {w r : List UInt8} {c : UInt8} {k : Int} (h : firstS (w ++ c :: r) = (k, w)) (h0 : k ≠ 0) (r' : List UInt8) : firstS (w ++ c :: r') = (k, w) := by
  have hl := (firstS_len (w ++ c :: r)).2 (by rw [h]; exact h0)
  rw [h] at hl
  have hal := first_alone h h0
  cases w with
  | nil => simp at hl
  | cons e w =>
    rw [firstC (c := e) (l := w ++ c :: r) (m := e :: w ++ c :: r) rfl] at h
    rw [firstC (c := e) (l := w ++ c :: r') (m := e :: w ++ c :: r') rfl]
    have key : ∀ b, (List.take (runN b (e :: w ++ c :: r)) (e :: w ++ c :: r)) = e :: w → runN b (e :: w ++ c :: r') = (e :: w).length := fun b he => by
      have hr := runN_le b (e :: w ++ c :: r)
      have hlen := congrArg List.length he
      rw [List.length_take, Nat.min_eq_left hr] at hlen
      have hw : runN b (e :: w) = (e :: w).length := by
        rcases Nat.lt_or_eq_of_le (runN_le b (e :: w)) with h1 | h1
        · have := run_more (x := c :: r) h1; omega
        · exact h1
      have h2 := run_whole (x := c :: r) hw
      have h3 := run_whole (x := c :: r') hw
      have h4 : runN b (c :: r) = 0 := by omega
      have h5 : runN b (c :: r') = 0 := by
        simp only [runN] at h4 ⊢
        split at h4
        · omega
        · rename_i hc; rw [if_neg hc]
      omega
    by_cases h1 : smB e = true
    · rw [if_pos h1] at h ⊢
      have hw : List.take (runN true (e :: w ++ c :: r)) (e :: w ++ c :: r) = e :: w := by
        split at h
        · exact (Prod.mk.inj h).2
        · split at h
          · exact (Prod.mk.inj h).2
          · exact absurd (Prod.mk.inj h).1.symm h0
      rw [hw] at h
      rw [key true hw, List.take_left]
      exact h
    · rw [if_neg h1] at h ⊢
      by_cases h2 : dgB e = true
      · rw [if_pos h2] at h ⊢
        have hw : List.take (runN false (e :: w ++ c :: r)) (e :: w ++ c :: r) = e :: w := by
          split at h
          · exact (Prod.mk.inj h).2
          · exact absurd (Prod.mk.inj h).1.symm h0
        rw [hw] at h
        rw [key false hw, List.take_left]
        exact h
      · rw [if_neg h2] at h ⊢
        have e1 : ∀ s : List UInt8, symS (e :: w ++ c :: s) = symS (e :: w ++ [c]) := fun s => find_congr fun y hy => by
          have hy2 := sym_len hy
          rw [show e :: w ++ c :: s = (e :: w ++ [c]) ++ s by simp]
          exact pre_more (by simp; omega)
        rw [e1 r] at h
        rw [e1 r']
        exact h
/-- Where a token begins there is neither blank nor comment. -/
theorem blk_next {w r : List UInt8} {c : UInt8} (hw : w ≠ []) (h : blk false (w ++ c :: r) = 0) (r' : List UInt8) : blk false (w ++ c :: r') = 0 := by
  cases w with
  | nil => exact absurd rfl hw
  | cons e w =>
    rw [List.cons_append] at h ⊢
    simp only [blk] at h ⊢
    have hh : (w ++ c :: r').head? = (w ++ c :: r).head? := by cases w <;> rfl
    rw [hh]
    split at h
    · omega
    · split at h
      · omega
      · rename_i h1 h2; rw [if_neg h1, if_neg h2]
theorem blk_first {w : List UInt8} {k : Int} (h : firstS w = (k, w)) (h0 : k ≠ 0) : blk false w = 0 ∧ ∀ c x, c ≠ 47 → blk false (w ++ c :: x) = 0 := by
  have hl := (firstS_len w).2 (by rw [h]; exact h0)
  rw [h] at hl
  cases w with
  | nil => simp at hl
  | cons e w =>
    have hb : (e == 32 || e == 9 || e == 10) = false := by
      rw [firstC rfl] at h
      cases hh : (e == 32 || e == 9 || e == 10) with
      | false => rfl
      | true =>
        exfalso
        simp only [Bool.or_eq_true, beq_iff_eq] at hh
        rcases hh with (rfl | rfl) | rfl <;>
        · rw [if_neg (by decide), if_neg (by decide)] at h
          cases hs : symS (_ :: w) with
          | none => rw [hs] at h; exact absurd (Prod.mk.inj h).1.symm h0
          | some y =>
            have hm := List.mem_of_find?_eq_some hs
            have hp := List.find?_some hs
            revert hp
            have : ∀ z ∈ symL, ∀ u : List UInt8, z.isPrefixOf (32 :: u) = false ∧ z.isPrefixOf (9 :: u) = false ∧ z.isPrefixOf (10 :: u) = false := by
              intro z hz u
              have hz2 : ∀ z ∈ symL, z.head? ≠ none ∧ z.head? ≠ some 32 ∧ z.head? ≠ some 9 ∧ z.head? ≠ some 10 := by decide
              have := hz2 z hz
              cases z with
              | nil => exact absurd rfl this.1
              | cons f z =>
                simp only [List.head?_cons, ne_eq, Option.some.injEq] at this
                simp [List.isPrefixOf, this.2.1, this.2.2.1, this.2.2.2]
            have := this y hm w
            simp [this.1, this.2.1, this.2.2]
    have hs : ∀ x : List UInt8, (x.head? = some 47 → w ≠ []) → (e == 47 && (w ++ x).head? == some 47) = false := fun x hx => by
      cases hh : (e == 47 && (w ++ x).head? == some 47) with
      | false => rfl
      | true =>
        exfalso
        simp only [Bool.and_eq_true, beq_iff_eq] at hh
        obtain ⟨rfl, h47⟩ := hh
        cases w with
        | nil => exact hx (by simpa using h47) rfl
        | cons f w =>
          rw [firstC rfl, if_neg (by decide), if_neg (by decide)] at h
          cases hs : symS (47 :: f :: w) with
          | none => rw [hs] at h; exact absurd (Prod.mk.inj h).1.symm h0
          | some y =>
            rw [hs] at h
            have hy : y = 47 :: f :: w := (Prod.mk.inj h).2
            have hm := List.mem_of_find?_eq_some hs
            have h2 : ∀ z ∈ symL, z.head? = some 47 → z.length = 1 := by decide
            have := h2 y hm (by rw [hy]; rfl)
            rw [hy] at this; simp at this
    constructor
    · simp only [blk]
      rw [if_neg (by rw [hb]; simp), if_neg]
      have := hs [] (fun h => by cases h)
      rw [List.append_nil] at this
      rw [this]; simp
    · intro c x hc
      rw [List.cons_append]
      simp only [blk]
      rw [if_neg (by rw [hb]; simp), if_neg]
      rw [hs (c :: x) (fun h => by simp at h; exact absurd h hc)]; simp
/-- A token as it comes out of a text. -/
def good (t : Tok) : Prop := t.k ≠ 0 ∧ firstS t.t = (t.k, t.t)
theorem good_len {t : Tok} (h : good t) : 0 < t.t.length := by
  have := (firstS_len t.t).2 (by rw [h.2]; exact h.1)
  rw [h.2] at this; exact this
theorem tk_good {l : List UInt8} : ∀ (ts : List Tok) (i line : Nat), Tk l i line ts → ∀ t ∈ ts, good t
  | [], _, _, _ => fun t ht => by cases ht
  | u :: ts, i, line, h => by
    obtain ⟨h1, h2, h3, _, _, h6⟩ := h
    intro t ht
    rcases List.mem_cons.1 ht with rfl | ht
    · refine ⟨h2, ?_⟩
      have hp := firstS_pre (l.drop (i + blk false (l.drop i)))
      rw [h3] at hp
      have e : l.drop (i + blk false (l.drop i)) = t.t ++ (l.drop (i + blk false (l.drop i))).drop t.t.length := by
        conv => lhs; rw [← List.take_append_drop t.t.length (l.drop (i + blk false (l.drop i)))]
        rw [← hp]
      rw [e] at h3
      exact first_alone h3 h2
    · exact tk_good ts _ _ h6 t ht
/-- Two tokens that need no space. -/
theorem apart_no {a b : Tok} (ha : good a) (hb : good b) (h : apartS a.t b.t = false) : blk false (a.t ++ b.t) = 0 ∧ firstS (a.t ++ b.t) = (a.k, a.t) := by
  simp only [apartS, Bool.or_eq_false_iff, decide_eq_false_iff_not, Bool.not_eq_false', decide_eq_true_eq, Decidable.not_not] at h
  obtain ⟨h1, h2⟩ := h
  generalize hq : lexS (a.t ++ b.t) = q at h1 h2
  obtain ⟨ts, p, e⟩ := q
  simp only at h1 h2
  subst h1
  obtain ⟨rfl, hT, _⟩ := lexS_tk hq
  obtain ⟨x, y, rfl⟩ : ∃ x y, ts = [x, y] := by
    have hlen := congrArg List.length h2
    match ts, hlen with
    | [x, y], _ => exact ⟨x, y, rfl⟩
  · simp only [List.map_cons, List.map_nil, List.cons.injEq, and_true] at h2
    obtain ⟨hx, hy⟩ := h2
    obtain ⟨k1, k2, k3, _, _, m1, m2, m3, _⟩ := hT
    have hlen : (a.t ++ b.t).length = a.t.length + b.t.length := by simp
    have hf1 := (firstS_len ((a.t ++ b.t).drop (0 + blk false ((a.t ++ b.t).drop 0)))).1
    have hf2 := (firstS_len ((a.t ++ b.t).drop (0 + blk false ((a.t ++ b.t).drop 0) + x.t.length + blk false ((a.t ++ b.t).drop (0 + blk false ((a.t ++ b.t).drop 0) + x.t.length))))).1
    rw [k3] at hf1
    rw [m3] at hf2
    simp only [List.length_drop, hx, hy, hlen] at hf1 hf2
    have hbl := good_len hb
    have hz : 0 + blk false ((a.t ++ b.t).drop 0) = 0 := by omega
    rw [hz, List.drop_zero, hx] at k3
    have hk := first_alone k3 k2
    rw [ha.2] at hk
    have hkk : a.k = x.k := (Prod.mk.inj hk).1
    refine ⟨by simpa using hz, by rw [k3, hkk]⟩
/-- Where a token of the joined text begins. -/
theorem join_start {t : Tok} {ts : List Tok} (ht : good t) (hts : ∀ u ∈ ts, good u) : blk false (t.t ++ joinT t ts) = 0 ∧ firstS (t.t ++ joinT t ts) = (t.k, t.t) := by
  have hne : t.t ≠ [] := List.length_pos_iff.1 (good_len ht)
  have hb := blk_first ht.2 ht.1
  cases ts with
  | nil => simp only [joinT, List.append_nil]; exact ⟨hb.1, ht.2⟩
  | cons u ts =>
    have hu := hts u (by simp)
    simp only [joinT, sepS]
    split
    · exact ⟨hb.2 10 _ (by decide), by rw [List.singleton_append, first_sep sep10 _ hne]; exact ht.2⟩
    · split
      · exact ⟨hb.2 32 _ (by decide), by rw [List.singleton_append, first_sep sep32 _ hne]; exact ht.2⟩
      · rename_i h1 h2
        obtain ⟨k1, k2⟩ := apart_no ht hu (by simpa using h2)
        have hul := good_len hu
        match hut : u.t, hul with
        | c :: r, _ =>
          rw [hut] at k1 k2
          rw [List.nil_append, List.cons_append]
          exact ⟨blk_next hne k1 _, first_next k2 ht.1 _⟩
theorem sep_blk {p t : Tok} {x : List UInt8} (h : blk false x = 0) : blk false (sepS p t ++ x) = (sepS p t).length := by
  simp only [sepS]
  split
  · simp only [List.singleton_append, blk]; rw [if_pos (by decide), h]; rfl
  · split
    · simp only [List.singleton_append, blk]; rw [if_pos (by decide), h]; rfl
    · simpa using h
/-- The tokens of a joined text: the same kinds and texts. -/
theorem join_tk {l : List UInt8} : ∀ (ts : List Tok) (p : Tok) (i line : Nat), i ≤ l.length → l.drop i = joinT p ts → (∀ u ∈ ts, good u) → ∃ ys, Tk l i line ys ∧ ys.map (fun t => (t.k, t.t)) = ts.map (fun t => (t.k, t.t))
  | [], p, i, line, hi, h, _ => ⟨[], by
      show i + blk false (l.drop i) = l.length
      rw [h]
      have := congrArg List.length h
      simp [joinT] at this
      simp [joinT, blk]; omega, rfl⟩
  | t :: ts, p, i, line, hi, h, hg => by
    have ht := hg t (by simp)
    have htl := good_len ht
    obtain ⟨s1, s2⟩ := join_start (ts := ts) ht (fun u hu => hg u (by simp [hu]))
    have hb : blk false (l.drop i) = (sepS p t).length := by rw [h, joinT]; exact sep_blk s1
    have hlen : (l.drop i).length = l.length - i := by simp
    rw [h, joinT] at hlen
    simp only [List.length_append] at hlen
    have hd : l.drop (i + (sepS p t).length) = t.t ++ joinT t ts := by rw [← List.drop_drop, h, joinT, List.drop_left]
    have hd2 : l.drop (i + (sepS p t).length + t.t.length) = joinT t ts := by rw [← List.drop_drop, hd, List.drop_left]
    obtain ⟨ys, y1, y2⟩ := join_tk ts t (i + (sepS p t).length + t.t.length) (line + nls ((l.drop i).take (sepS p t).length)) (by omega) hd2 (fun u hu => hg u (by simp [hu]))
    refine ⟨⟨t.k, t.t, ((line + nls ((l.drop i).take (blk false (l.drop i))) : Nat) : Int), ((i + blk false (l.drop i) : Nat) : Int)⟩ :: ys, ⟨by rw [hb]; omega, ht.1, by rw [hb, hd]; exact s2, rfl, rfl, by rw [hb]; exact y1⟩, by simp [y2]⟩
theorem joinS_tk {x : List Tok} (hg : ∀ u ∈ x, good u) : ∃ ys, Tk (joinS x) 0 1 ys ∧ ys.map (fun t => (t.k, t.t)) = x.map (fun t => (t.k, t.t)) := by
  cases x with
  | nil => exact ⟨[], by simp [Tk, joinS, blk], rfl⟩
  | cons t ts =>
    have ht := hg t (by simp)
    have htl := good_len ht
    obtain ⟨s1, s2⟩ := join_start (ts := ts) ht (fun u hu => hg u (by simp [hu]))
    obtain ⟨ys, y1, y2⟩ := join_tk (l := joinS (t :: ts)) ts t t.t.length (1 + nls (((joinS (t :: ts)).drop 0).take 0)) (by simp [joinS]) (by simp [joinS]) (fun u hu => hg u (by simp [hu]))
    refine ⟨⟨t.k, t.t, ((1 + nls (((joinS (t :: ts)).drop 0).take (blk false ((joinS (t :: ts)).drop 0))) : Nat) : Int), ((0 + blk false ((joinS (t :: ts)).drop 0) : Nat) : Int)⟩ :: ys, ⟨?_, ht.1, ?_, rfl, rfl, ?_⟩, by simp [y2]⟩
    · simp only [joinS, List.drop_zero, s1]; simp; omega
    · simp only [joinS, List.drop_zero, s1]; simpa using s2
    · simp only [joinS, List.drop_zero, s1, Nat.zero_add] at y1 ⊢; exact y1
/-- How long a joined text is. -/
theorem tk_sum {l : List UInt8} : ∀ (ts : List Tok) (i line : Nat), i ≤ l.length → Tk l i line ts → i + (ts.map (·.t.length)).sum ≤ l.length
  | [], i, _, hi, _ => by simpa using hi
  | t :: ts, i, line, hi, h => by
    obtain ⟨h1, h2, h3, _, _, h6⟩ := h
    have hf := firstS_len (l.drop (i + blk false (l.drop i)))
    rw [h3] at hf
    simp only [List.length_drop] at hf
    have := hf.2 h2
    have := tk_sum ts _ _ (by omega) h6
    simp only [List.map_cons, List.sum_cons]
    omega
theorem joinT_len : ∀ (ts : List Tok) (p : Tok), (joinT p ts).length ≤ (ts.map (·.t.length)).sum + ts.length
  | [], _ => by simp [joinT]
  | t :: ts, p => by
    have := joinT_len ts t
    have hs : (sepS p t).length ≤ 1 := by
      unfold sepS
      split
      · simp
      · split <;> simp
    simp only [joinT, List.length_append, List.map_cons, List.sum_cons, List.length_cons]
    omega
theorem sum_count {ts : List Tok} (h : ∀ t ∈ ts, good t) : ts.length ≤ (ts.map (·.t.length)).sum := by
  induction ts with
  | nil => simp
  | cons t ts ih =>
    have := good_len (h t (by simp))
    have := ih fun u hu => h u (by simp [hu])
    simp only [List.length_cons, List.map_cons, List.sum_cons]; omega
/-- THE LAW: the tokens of a text, joined, are those tokens. -/
theorem join_back {l : List UInt8} (hl : l.length ≤ 400) {x : List Tok} {a : Int} (h : lexS l = (x, a, 0)) :
    (joinS x).length ≤ 1000 ∧ ∃ ys, lexS (joinS x) = (ys, 0, 0) ∧ ys.map (fun t => (t.k, t.t)) = x.map (fun t => (t.k, t.t)) := by
  obtain ⟨rfl, hT, _⟩ := lexS_tk h
  have hg := tk_good x 0 1 hT
  have hs := tk_sum x 0 1 (by omega) hT
  have hc := sum_count hg
  have hj : (joinS x).length ≤ 1000 := by
    cases x with
    | nil => simp [joinS]
    | cons t ts =>
      have := joinT_len ts t
      simp only [joinS, List.length_append, List.map_cons, List.sum_cons, List.length_cons] at *
      omega
  obtain ⟨ys, y1, y2⟩ := joinS_tk hg
  have hyl : ys.length = x.length := by have := congrArg List.length y2; simpa using this
  exact ⟨hj, ys, tk_lexS y1 (by omega) (by omega), y2⟩
end Go.Proofs.YtkkamgblakhmiaaDoor

/- Which tokens need a space in between. -/
namespace Go.Proofs.YtkkamgblakhmiaaDoor
open Go Go.Fw
set_option maxRecDepth 20000

theorem unTok_agg {k a b : Int} {s : List UInt8} : unTok (.agg [.lit (.int .i64 k), .lit (.string (bs s)), .lit (.int .i64 a), .lit (.int .i64 b)]) = some ⟨k, s, a, b⟩ := by simp [unTok, ul_bs]
theorem unTok_le {x : AV} {t : Tok} (h : unTok x = some t) : LeA x (tokV t) := by rw [unTok_eq h]; exact LeA.refl _
def unTxs : List AV → Option (List (List UInt8))
  | [] => some []
  | .lit (.string s) :: xs => (unTxs xs).map (ul s :: ·)
  | _ :: _ => none
def txOf : AV → Option (List (List UInt8))
  | .sl _ 1 xs => unTxs xs
  | _ => none
theorem unTxs_txs (l : List (List UInt8)) : unTxs (txs l) = some l := by
  induction l with
  | nil => rfl
  | cons w l ih => simp only [txs, List.map_cons, unTxs, ul_bs] at ih ⊢; rw [ih]; rfl
theorem unTxs_eq : ∀ {xs : List AV} {l : List (List UInt8)}, unTxs xs = some l → xs = txs l
  | [], l, h => by cases h; rfl
  | x :: xs, l, h => by
    unfold unTxs at h
    split at h
    · cases h; simp_all
    · rename_i s xs' hx
      simp only [List.cons.injEq] at hx
      obtain ⟨rfl, rfl⟩ := hx
      simp only [Option.map_eq_some_iff] at h
      obtain ⟨l', h1, rfl⟩ := h
      rw [unTxs_eq h1]; simp [txs, bs_ul]
    · cases h
theorem txOf_sl {b : Bool} {l : List (List UInt8)} : txOf (.sl b 1 (txs l)) = some l := unTxs_txs l
theorem txOf_two {b : Bool} {u v : List UInt8} : txOf (.sl b 1 [.lit (.string (bs u)), .lit (.string (bs v))]) = some [u, v] := unTxs_txs [u, v]
theorem txOf_le {x : AV} {l : List (List UInt8)} (h : txOf x = some l) : LeA x (.sl false 1 (txs l)) := by
  unfold txOf at h
  split at h
  · rename_i b xs; rw [unTxs_eq h]; exact LeA.full b 1 _
  · cases h
attribute [go_sem] unTok_agg txOf_sl txOf_two
noncomputable def E34 : Env := envJ (P := Tryd.prog) jk zer (fun _ => false) (fun _ => false) [] []
theorem E34_ok : EnvOk Tryd.prog E34 := envJOk zer_ok
theorem drop_tx {l : List (List UInt8)} {i : Nat} (h : i < l.length) : l.drop i = l.getD i [] :: l.drop (i + 1) := by
  rw [List.drop_eq_getElem_cons h, List.getD_eq_getElem?_getD, List.getElem?_eq_getElem h]; rfl
set_option maxHeartbeats 1000000 in
theorem seq_pc {a b : List (List UInt8)} (ha : a.length ≤ 1000000000) : PC Tryd.prog 40 [.sl false 1 (txs a), .sl false 1 (txs b)] (.lit (.bool (decide (a = b)))) := by
  by_cases hl : a.length = b.length
  · have g1 : ((a.length : Int) != (b.length : Int)) = false := by rw [bne_eq_false_iff_eq]; omega
    refine pc_ofR E34_ok mixed (kp40) (rs := [.tmp 4]) Tryd.func40 rfl (by kernel_rfl) (by kernel_rfl) (Nat.le_of_ble_eq_true rfl) ?_
    simp only [initF_cons, initF_nil, Nat.reduceAdd]
    refine t_name fun KF => ?_
    unfold E34
    repeat' (first
     | (with_reducible first | refine t_seq fun K => ?_ | refine t_block ?_ | refine t_scope ?_ | refine t_label ?_ | refine t_skip ?_ | refine t_exit ?_ | refine t_ret ?_ | refine t_k ?_ | refine t_gF ?_ | exact kp_nil | exact Kp.refl _ | exact kp_to | refine kp_cons ?_ | refine kp_arr ?_ | refine kp_app ?_ | refine t_p ?_ | refine t_br (fun hc => ?_) fun hc => ?_)
     | ((with_reducible first | refine t_kE (t_openE ?_) | refine t_kD (t_openD ?_) | refine t_kE ?_ | refine t_kD ?_ | refine t_gS ?_ | refine t_kL ?_ | refine t_kLF ?_ ?_ | refine t_region fun K => ?_ | refine t_cond fun A B => ?_ | refine t_draw (by kernel_rfl) fun K => ?_); (try (first | refine t_hideE fun KL => ?_ | refine t_hideD fun KL => ?_)); simp only [go_sem, geff, kp40, g1])
     | ((with_reducible refine kp_skip ?_ ?_); rfl) | simp only [thenQ, blockQ, scopeQ, Nat.reduceEqDiff, reduceIte] | (with_reducible first | refine And.intro ?_ ?_ | intro vr))
    all_goals try (first | (with_reducible assumption) | (intros; (try simp only [Bool.and_eq_true, Bool.or_eq_true, Bool.or_eq_false_iff, Bool.not_eq_true', Bool.not_eq_false', decide_eq_true_eq, decide_eq_false_iff_not, beq_iff_eq, beq_eq_false_iff_ne, bne_iff_ne, bne_eq_false_iff_eq, ne_eq, inI64, List.length_append] at *) <;> omega) | (intros; (with_reducible first | refine impB_ofR ?_ | refine and_ofB ?_ ?_) <;> with_reducible first | assumption | (refine impB_ofR ?_; assumption)) | ((try simp only [Bool.and_eq_true] at vr); simp only [impB, vr, Bool.or_true, Bool.true_or, Bool.and_self, Bool.not_true, Bool.not_false, Bool.and_true]; done))
    refine t_loopF (ι := { i : Nat // i ≤ a.length ∧ decide (a = b) = decide (a.drop i = b.drop i) }) (fun i => [(13, .lit (.int .i64 i.1))]) (fun i => []) (fun i => a.length - i.1) ⟨0, by omega, by simp⟩ ?_ ?_
    · simp only [updL_nil, updL_cons, delF_top, delF_upd, Nat.reduceEqDiff, reduceIte]
      refine Le.frameS (by first | rfl | (simp only [go_sem]; try rfl)) ?_
      repeat' (first | exact leF_top _ | exact (fun _ => LeR.refl _) | (with_reducible refine leF_sl ?_ ?_) | (refine leF_upd ?_ ?_))
      all_goals (first | exact LeR.top _ | exact LeR.refl _ | (refine LeR.of_eq ?_; (try simp only [go_sem]); try rfl) | ((try simp only [go_sem]); try rfl))
    rintro ⟨i, hi, hF⟩ K0
    rcases Nat.lt_or_ge i a.length with hlt | hge
    · have g5 : decide ((i : Int) < (a.length : Int)) = true := decide_eq_true (by omega)
      have hF2 : decide (a = b) = ((a.getD i [] == b.getD i []) && decide (a.drop (i + 1) = b.drop (i + 1))) := by
        rw [hF, drop_tx hlt, drop_tx (show i < b.length by omega), Bool.eq_iff_iff]
        simp
      repeat' (first
       | (with_reducible first | refine t_seq fun K => ?_ | refine t_block ?_ | refine t_scope ?_ | refine t_label ?_ | refine t_skip ?_ | refine t_exit ?_ | refine t_ret ?_ | refine t_k ?_ | refine t_gF ?_ | exact kp_nil | exact Kp.refl _ | exact kp_to | refine kp_cons ?_ | refine kp_arr ?_ | refine kp_app ?_ | refine t_p ?_ | refine t_br (fun hc => ?_) fun hc => ?_)
       | ((with_reducible first | refine t_kE (t_openE ?_) | refine t_kD (t_openD ?_) | refine t_kE ?_ | refine t_kD ?_ | refine t_gS ?_ | refine t_kL ?_ | refine t_kLF ?_ ?_ | refine t_region fun K => ?_ | refine t_cond fun A B => ?_ | refine t_draw (by kernel_rfl) fun K => ?_); (try (first | refine t_hideE fun KL => ?_ | refine t_hideD fun KL => ?_)); simp only [go_sem, geff, kp40, updL_cons, updL_nil, Int.toNat_natCast, g5])
       | ((with_reducible refine kp_skip ?_ ?_); rfl) | simp only [thenQ, blockQ, scopeQ, Nat.reduceEqDiff, reduceIte] | (with_reducible first | refine And.intro ?_ ?_ | intro vr))
      all_goals try (first | (with_reducible assumption) | (intros; (try simp only [Bool.and_eq_true, Bool.or_eq_true, Bool.or_eq_false_iff, Bool.not_eq_true', Bool.not_eq_false', decide_eq_true_eq, decide_eq_false_iff_not, beq_iff_eq, beq_eq_false_iff_ne, bne_iff_ne, bne_eq_false_iff_eq, ne_eq, inI64, List.length_append] at *) <;> omega) | (intros; (with_reducible first | refine impB_ofR ?_ | refine and_ofB ?_ ?_) <;> with_reducible first | assumption | (refine impB_ofR ?_; assumption)) | ((try simp only [Bool.and_eq_true] at vr); simp only [impB, vr, Bool.or_true, Bool.true_or, Bool.and_self, Bool.not_true, Bool.not_false, Bool.and_true]; done))
      · have h1 : (a.getD i [] == b.getD i []) = false := by simpa using hc
        all_goals ((first | refine end_retE ?_ | refine end_normE ?_); simp only [fin, go_sem])
        exact LeA.of_eq (by rw [hF2, h1, Bool.false_and])
      · have h1 : (a.getD i [] == b.getD i []) = true := by simpa using hc
        refine ⟨⟨i + 1, by omega, by rw [hF2, h1, Bool.true_and]⟩, by first | (simp only; omega) | omega, ?_⟩
        simp only [updL_nil, updL_cons, delF_top, delF_upd, Nat.reduceEqDiff, reduceIte]
        refine Le.frameS (by first | rfl | (simp only [go_sem]; try rfl)) ?_
        repeat' (first | exact leF_top _ | exact (fun _ => LeR.refl _) | (with_reducible refine leF_sl ?_ ?_) | (refine leF_upd ?_ ?_))
        all_goals (first | exact LeR.top _ | exact LeR.refl _ | (refine LeR.of_eq ?_; (try simp only [go_sem]); try rfl) | ((try simp only [go_sem]); try rfl))
    · have g5 : decide ((i : Int) < (a.length : Int)) = false := decide_eq_false (by omega)
      rw [List.drop_eq_nil_of_le hge, List.drop_eq_nil_of_le (by omega)] at hF
      repeat' (first
       | (with_reducible first | refine t_seq fun K => ?_ | refine t_block ?_ | refine t_scope ?_ | refine t_label ?_ | refine t_skip ?_ | refine t_exit ?_ | refine t_ret ?_ | refine t_k ?_ | refine t_gF ?_ | exact kp_nil | exact Kp.refl _ | exact kp_to | refine kp_cons ?_ | refine kp_arr ?_ | refine kp_app ?_ | refine t_p ?_ | refine t_br (fun hc => ?_) fun hc => ?_)
       | ((with_reducible first | refine t_kE (t_openE ?_) | refine t_kD (t_openD ?_) | refine t_kE ?_ | refine t_kD ?_ | refine t_gS ?_ | refine t_kL ?_ | refine t_kLF ?_ ?_ | refine t_region fun K => ?_ | refine t_cond fun A B => ?_ | refine t_draw (by kernel_rfl) fun K => ?_); (try (first | refine t_hideE fun KL => ?_ | refine t_hideD fun KL => ?_)); simp only [go_sem, geff, kp40, updL_cons, updL_nil, Int.toNat_natCast, g5])
       | ((with_reducible refine kp_skip ?_ ?_); rfl) | simp only [thenQ, blockQ, scopeQ, Nat.reduceEqDiff, reduceIte] | (with_reducible first | refine And.intro ?_ ?_ | intro vr))
      all_goals try (first | (with_reducible assumption) | (intros; (try simp only [Bool.and_eq_true, Bool.or_eq_true, Bool.or_eq_false_iff, Bool.not_eq_true', Bool.not_eq_false', decide_eq_true_eq, decide_eq_false_iff_not, beq_iff_eq, beq_eq_false_iff_ne, bne_iff_ne, bne_eq_false_iff_eq, ne_eq, inI64, List.length_append] at *) <;> omega) | (intros; (with_reducible first | refine impB_ofR ?_ | refine and_ofB ?_ ?_) <;> with_reducible first | assumption | (refine impB_ofR ?_; assumption)) | ((try simp only [Bool.and_eq_true] at vr); simp only [impB, vr, Bool.or_true, Bool.true_or, Bool.and_self, Bool.not_true, Bool.not_false, Bool.and_true]; done))
      all_goals ((first | refine end_retE ?_ | refine end_normE ?_); simp only [fin, go_sem])
      exact LeA.of_eq (by rw [hF]; simp)
  · have g1 : ((a.length : Int) != (b.length : Int)) = true := by rw [bne_iff_ne]; omega
    refine pc_ofR E34_ok mixed (kp40) (rs := [.tmp 4]) Tryd.func40 rfl (by kernel_rfl) (by kernel_rfl) (Nat.le_of_ble_eq_true rfl) ?_
    simp only [initF_cons, initF_nil, Nat.reduceAdd]
    refine t_name fun KF => ?_
    unfold E34
    repeat' (first
     | (with_reducible first | refine t_seq fun K => ?_ | refine t_block ?_ | refine t_scope ?_ | refine t_label ?_ | refine t_skip ?_ | refine t_exit ?_ | refine t_ret ?_ | refine t_k ?_ | refine t_gF ?_ | exact kp_nil | exact Kp.refl _ | exact kp_to | refine kp_cons ?_ | refine kp_arr ?_ | refine kp_app ?_ | refine t_p ?_ | refine t_br (fun hc => ?_) fun hc => ?_)
     | ((with_reducible first | refine t_kE (t_openE ?_) | refine t_kD (t_openD ?_) | refine t_kE ?_ | refine t_kD ?_ | refine t_gS ?_ | refine t_kL ?_ | refine t_kLF ?_ ?_ | refine t_region fun K => ?_ | refine t_cond fun A B => ?_ | refine t_draw (by kernel_rfl) fun K => ?_); (try (first | refine t_hideE fun KL => ?_ | refine t_hideD fun KL => ?_)); simp only [go_sem, geff, kp40, g1])
     | ((with_reducible refine kp_skip ?_ ?_); rfl) | simp only [thenQ, blockQ, scopeQ, Nat.reduceEqDiff, reduceIte] | (with_reducible first | refine And.intro ?_ ?_ | intro vr))
    all_goals ((first | refine end_retE ?_ | refine end_normE ?_); simp only [fin, go_sem])
    refine LeA.of_eq ?_
    rw [decide_eq_false]
    intro h; rw [h] at hl; exact hl rfl
noncomputable def con40 : PCon Tryd.prog where
  f := 40
  c := fun
    | [xa, xb] => match txOf xa, txOf xb with | some a, some b => some (a.length ≤ 1000000000, .lit (.bool (decide (a = b)))) | _, _ => none
    | _ => none
  ok := by
    intro args p r hc hp
    split at hc
    · split at hc
      · rename_i ha hb
        cases hc
        exact PC.weak (seq_pc hp) ⟨txOf_le ha, txOf_le hb, trivial⟩
      · cases hc
    · cases hc
  fk := fk40
theorem con40_f : con40.f = 40 := rfl
theorem con40_c {xa : AV} {xb : AV} : con40.c [xa, xb] = match txOf xa, txOf xb with | some a, some b => some (a.length ≤ 1000000000, .lit (.bool (decide (a = b)))) | _, _ => none := rfl
attribute [go_sem] con40_f con40_c
noncomputable def E35 : Env := envJ (P := Tryd.prog) jk zer (fun _ => false) (fun _ => false) [con11, con40] []
theorem E35_ok : EnvOk Tryd.prog E35 := envJOk zer_ok
set_option maxHeartbeats 2000000 in
theorem apart_pc {a b : Tok} (hl : a.t.length + b.t.length ≤ 1000000) : PC Tryd.prog 24 [tokV a, tokV b] (.lit (.bool (apartS a.t b.t))) := by
  have hlen := lexS_len (a.t ++ b.t)
  have hA : apartS a.t b.t = (decide ((lexS (a.t ++ b.t)).2.2 ≠ 0) || !decide ((lexS (a.t ++ b.t)).1.map (·.t) = [a.t, b.t])) := rfl
  generalize hq : lexS (a.t ++ b.t) = q at hlen hA
  obtain ⟨ts, p, e⟩ := q
  simp only at hlen hA
  unfold tokV
  refine pc_ofR E35_ok mixed (kp24) (rs := [.tmp 4]) Tryd.func24 rfl (by kernel_rfl) (by kernel_rfl) (Nat.le_of_ble_eq_true rfl) ?_
  simp only [initF_cons, initF_nil, Nat.reduceAdd]
  refine t_name fun KF => ?_
  unfold E35
  repeat' (first
   | (with_reducible first | refine t_seq fun K => ?_ | refine t_block ?_ | refine t_scope ?_ | refine t_label ?_ | refine t_skip ?_ | refine t_exit ?_ | refine t_ret ?_ | refine t_k ?_ | refine t_gF ?_ | exact kp_nil | exact Kp.refl _ | exact kp_to | refine kp_cons ?_ | refine kp_arr ?_ | refine kp_app ?_ | refine t_p ?_ | refine t_br (fun hc => ?_) fun hc => ?_)
   | ((with_reducible first | refine t_kE (t_openE ?_) | refine t_kD (t_openD ?_) | refine t_kE ?_ | refine t_kD ?_ | refine t_gS ?_ | refine t_kL ?_ | refine t_kLF ?_ ?_ | refine t_region fun K => ?_ | refine t_cond fun A B => ?_ | refine t_draw (by kernel_rfl) fun K => ?_); (try (first | refine t_hideE fun KL => ?_ | refine t_hideD fun KL => ?_)); simp only [go_sem, geff, kp24, hq, lexV])
   | ((with_reducible refine kp_skip ?_ ?_); rfl) | simp only [thenQ, blockQ, scopeQ, Nat.reduceEqDiff, reduceIte] | (with_reducible first | refine And.intro ?_ ?_ | intro vr))
  all_goals try (first | (with_reducible assumption) | (intros; (try simp only [Bool.and_eq_true, Bool.or_eq_true, Bool.or_eq_false_iff, Bool.not_eq_true', Bool.not_eq_false', decide_eq_true_eq, decide_eq_false_iff_not, beq_iff_eq, beq_eq_false_iff_ne, bne_iff_ne, bne_eq_false_iff_eq, ne_eq, inI64, List.length_append] at *) <;> omega) | (intros; (with_reducible first | refine impB_ofR ?_ | refine and_ofB ?_ ?_) <;> with_reducible first | assumption | (refine impB_ofR ?_; assumption)) | ((try simp only [Bool.and_eq_true] at vr); simp only [impB, vr, Bool.or_true, Bool.true_or, Bool.and_self, Bool.not_true, Bool.not_false, Bool.and_true]; done))
  refine t_loopF (ι := { p : Nat × Nat // p.1 ≤ ts.length }) (fun i => [(24, .lit (.int .i64 i.1.1)), (8, .arr 2 i.1.2)]) (fun i => [.box 36 [.lit (.int .i64 a.k), .lit (.string (bs a.t)), .lit (.int .i64 a.line), .lit (.int .i64 a.at_)], .box 36 [.lit (.int .i64 b.k), .lit (.string (bs b.t)), .lit (.int .i64 b.line), .lit (.int .i64 b.at_)], .arr 9 1 (txs ((ts.take i.1.1).map (·.t))) i.1.2 false]) (fun i => ts.length - i.1.1) ⟨(0, 0), by simp⟩ ?_ ?_
  · simp only [updL_nil, updL_cons, delF_top, delF_upd, Nat.reduceEqDiff, reduceIte]
    refine Le.frameS (by first | rfl | (simp only [go_sem]; try rfl)) ?_
    repeat' (first | exact leF_top _ | exact (fun _ => LeR.refl _) | (with_reducible refine leF_sl ?_ ?_) | (refine leF_upd ?_ ?_))
    all_goals (first | exact LeR.top _ | exact LeR.refl _ | (refine LeR.of_eq ?_; (try simp only [go_sem]); try rfl) | ((try simp only [go_sem]); try rfl))
  rintro ⟨⟨i, ver⟩, hi⟩ K0
  simp only at hi
  rcases Nat.lt_or_ge i ts.length with hlt | hge
  · have g5 : decide ((i : Int) < (ts.length : Int)) = true := decide_eq_true (by omega)
    have hs : (ts.take (i + 1)).map (·.t) = (ts.take i).map (·.t) ++ [(ts.getD i ⟨0, [], 0, 0⟩).t] := by
      rw [List.take_add_one, List.getD_eq_getElem?_getD, List.getElem?_eq_getElem hlt, List.map_append]; rfl
    repeat' (first
     | (with_reducible first | refine t_seq fun K => ?_ | refine t_block ?_ | refine t_scope ?_ | refine t_label ?_ | refine t_skip ?_ | refine t_exit ?_ | refine t_ret ?_ | refine t_k ?_ | refine t_gF ?_ | exact kp_nil | exact Kp.refl _ | exact kp_to | refine kp_cons ?_ | refine kp_arr ?_ | refine kp_app ?_ | refine t_p ?_ | refine t_br (fun hc => ?_) fun hc => ?_)
     | ((with_reducible first | refine t_kE (t_openE ?_) | refine t_kD (t_openD ?_) | refine t_kE ?_ | refine t_kD ?_ | refine t_gS ?_ | refine t_kL ?_ | refine t_kLF ?_ ?_ | refine t_region fun K => ?_ | refine t_cond fun A B => ?_ | refine t_draw (by kernel_rfl) fun K => ?_); (try (first | refine t_hideE fun KL => ?_ | refine t_hideD fun KL => ?_)); simp only [go_sem, geff, kp24, updL_cons, updL_nil, Int.toNat_natCast, g5, tokV])
     | ((with_reducible refine kp_skip ?_ ?_); rfl) | simp only [thenQ, blockQ, scopeQ, Nat.reduceEqDiff, reduceIte] | (with_reducible first | refine And.intro ?_ ?_ | intro vr))
    all_goals try (first | (with_reducible assumption) | (intros; (try simp only [Bool.and_eq_true, Bool.or_eq_true, Bool.or_eq_false_iff, Bool.not_eq_true', Bool.not_eq_false', decide_eq_true_eq, decide_eq_false_iff_not, beq_iff_eq, beq_eq_false_iff_ne, bne_iff_ne, bne_eq_false_iff_eq, ne_eq, inI64, List.length_append, List.length_take, List.length_map] at *) <;> omega) | (intros; (with_reducible first | refine impB_ofR ?_ | refine and_ofB ?_ ?_) <;> with_reducible first | assumption | (refine impB_ofR ?_; assumption)) | ((try simp only [Bool.and_eq_true] at vr); simp only [impB, vr, Bool.or_true, Bool.true_or, Bool.and_self, Bool.not_true, Bool.not_false, Bool.and_true]; done))
    rw [← hs]
    refine ⟨⟨(i + 1, ver + 1), by simp only; omega⟩, by first | (simp only; omega) | omega, ?_⟩
    simp only [updL_nil, updL_cons, delF_top, delF_upd, Nat.reduceEqDiff, reduceIte]
    refine le_backD (by first | rfl | (simp only [go_sem]; try rfl)) (by first | exact Nat.zero_le _ | simp) (by first | rfl | simp [lowO, low_lit, low_sl, low_ref, low_arr]) ?_ ?_
    · repeat' (first | exact low_top | (refine low_upd rfl ?_))
    repeat' (first | exact leF_top _ | exact (fun _ => LeR.refl _) | (with_reducible refine leF_sl ?_ ?_) | (refine leF_upd ?_ ?_))
    all_goals (first | exact LeR.top _ | exact LeR.refl _ | (refine LeR.of_eq ?_; (try simp only [go_sem]); try rfl) | ((try simp only [go_sem]); try rfl))
  · have g5 : decide ((i : Int) < (ts.length : Int)) = false := decide_eq_false (by omega)
    have e1 : i = ts.length := by omega
    subst e1
    rw [List.take_length] at *
    repeat' (first
     | (with_reducible first | refine t_seq fun K => ?_ | refine t_block ?_ | refine t_scope ?_ | refine t_label ?_ | refine t_skip ?_ | refine t_exit ?_ | refine t_ret ?_ | refine t_k ?_ | refine t_gF ?_ | exact kp_nil | exact Kp.refl _ | exact kp_to | refine kp_cons ?_ | refine kp_arr ?_ | refine kp_app ?_ | refine t_p ?_ | refine t_br (fun hc => ?_) fun hc => ?_)
     | ((with_reducible first | refine t_kE (t_openE ?_) | refine t_kD (t_openD ?_) | refine t_kE ?_ | refine t_kD ?_ | refine t_gS ?_ | refine t_kL ?_ | refine t_kLF ?_ ?_ | refine t_region fun K => ?_ | refine t_cond fun A B => ?_ | refine t_draw (by kernel_rfl) fun K => ?_); (try (first | refine t_hideE fun KL => ?_ | refine t_hideD fun KL => ?_)); simp only [go_sem, geff, kp24, updL_cons, updL_nil, Int.toNat_natCast, g5])
     | ((with_reducible refine kp_skip ?_ ?_); rfl) | simp only [thenQ, blockQ, scopeQ, Nat.reduceEqDiff, reduceIte] | (with_reducible first | refine And.intro ?_ ?_ | intro vr))
    all_goals try (first | (with_reducible assumption) | (intros; (try simp only [Bool.and_eq_true, Bool.or_eq_true, Bool.or_eq_false_iff, Bool.not_eq_true', Bool.not_eq_false', decide_eq_true_eq, decide_eq_false_iff_not, beq_iff_eq, beq_eq_false_iff_ne, bne_iff_ne, bne_eq_false_iff_eq, ne_eq, inI64, List.length_append, List.length_take, List.length_map] at *) <;> omega) | (intros; (with_reducible first | refine impB_ofR ?_ | refine and_ofB ?_ ?_) <;> with_reducible first | assumption | (refine impB_ofR ?_; assumption)) | ((try simp only [Bool.and_eq_true] at vr); simp only [impB, vr, Bool.or_true, Bool.true_or, Bool.and_self, Bool.not_true, Bool.not_false, Bool.and_true]; done))
    all_goals ((first | refine end_retE ?_ | refine end_normE ?_); simp only [fin, go_sem])
    refine LeA.of_eq ?_
    rw [hA]
    cases he : decide (e ≠ 0) <;> simp_all
noncomputable def con24 : PCon Tryd.prog where
  f := 24
  c := fun
    | [xa, xb] => match unTok xa, unTok xb with | some a, some b => some (a.t.length + b.t.length ≤ 1000000, .lit (.bool (apartS a.t b.t))) | _, _ => none
    | _ => none
  ok := by
    intro args p r hc hp
    split at hc
    · split at hc
      · rename_i ha hb
        cases hc
        exact PC.weak (apart_pc hp) ⟨unTok_le ha, unTok_le hb, trivial⟩
      · cases hc
    · cases hc
  fk := fk24
theorem con24_f : con24.f = 24 := rfl
theorem con24_c {xa : AV} {xb : AV} : con24.c [xa, xb] = match unTok xa, unTok xb with | some a, some b => some (a.t.length + b.t.length ≤ 1000000, .lit (.bool (apartS a.t b.t))) | _, _ => none := rfl
noncomputable def E36 : Env := envJ (P := Tryd.prog) jk zer (fun _ => false) (fun _ => false) [con12] []
theorem E36_ok : EnvOk Tryd.prog E36 := envJOk zer_ok
theorem two_of {ts : List Tok} {u v : List UInt8} : decide (ts.map (·.t) = [u, v]) = (decide (ts.length = 2) && ((ts.getD 0 ⟨0, [], 0, 0⟩).t == u) && ((ts.getD 1 ⟨0, [], 0, 0⟩).t == v)) := by
  match ts with
  | [] => rfl
  | [x] => simp
  | [x, y] => rw [Bool.eq_iff_iff]; simp
  | x :: y :: z :: ts => simp
set_option maxHeartbeats 2000000 in
theorem rapart_pc {a b : Tok} (hl : a.t.length + b.t.length ≤ 1000000) : PC Tryd.prog 25 [tokV a, tokV b] (.lit (.bool (apartS a.t b.t))) := by
  have hlen := lexS_len (a.t ++ b.t)
  have hA : apartS a.t b.t = (decide ((lexS (a.t ++ b.t)).2.2 ≠ 0) || !decide ((lexS (a.t ++ b.t)).1.map (·.t) = [a.t, b.t])) := rfl
  generalize hq : lexS (a.t ++ b.t) = q at hlen hA
  obtain ⟨ts, p, e⟩ := q
  simp only at hlen hA
  rw [two_of] at hA
  unfold tokV
  refine pc_ofR E36_ok mixed (kp25) (rs := [.tmp 4]) Tryd.func25 rfl (by kernel_rfl) (by kernel_rfl) (Nat.le_of_ble_eq_true rfl) ?_
  simp only [initF_cons, initF_nil, Nat.reduceAdd]
  refine t_name fun KF => ?_
  unfold E36
  repeat' (first
   | (with_reducible first | refine t_seq fun K => ?_ | refine t_block ?_ | refine t_scope ?_ | refine t_label ?_ | refine t_skip ?_ | refine t_exit ?_ | refine t_ret ?_ | refine t_k ?_ | refine t_gF ?_ | exact kp_nil | exact Kp.refl _ | exact kp_to | refine kp_cons ?_ | refine kp_arr ?_ | refine kp_app ?_ | refine t_p ?_ | refine t_br (fun hc => ?_) fun hc => ?_)
   | ((with_reducible first | refine t_kE (t_openE ?_) | refine t_kD (t_openD ?_) | refine t_kE ?_ | refine t_kD ?_ | refine t_gS ?_ | refine t_kL ?_ | refine t_kLF ?_ ?_ | refine t_region fun K => ?_ | refine t_cond fun A B => ?_ | refine t_draw (by kernel_rfl) fun K => ?_); (try (first | refine t_hideE fun KL => ?_ | refine t_hideD fun KL => ?_)); simp only [go_sem, geff, kp25, hq, lexV, tokV])
   | ((with_reducible refine kp_skip ?_ ?_); rfl) | simp only [thenQ, blockQ, scopeQ, Nat.reduceEqDiff, reduceIte] | (with_reducible first | refine And.intro ?_ ?_ | intro vr))
  all_goals try (first | (with_reducible assumption) | (intros; (try simp only [Bool.and_eq_true, Bool.or_eq_true, Bool.or_eq_false_iff, Bool.not_eq_true', Bool.not_eq_false', decide_eq_true_eq, decide_eq_false_iff_not, beq_iff_eq, beq_eq_false_iff_ne, bne_iff_ne, bne_eq_false_iff_eq, ne_eq, inI64, List.length_append] at *) <;> omega) | (intros; (with_reducible first | refine impB_ofR ?_ | refine and_ofB ?_ ?_) <;> with_reducible first | assumption | (refine impB_ofR ?_; assumption)) | ((try simp only [Bool.and_eq_true] at vr); simp only [impB, vr, Bool.or_true, Bool.true_or, Bool.and_self, Bool.not_true, Bool.not_false, Bool.and_true]; done))
  all_goals ((first | refine end_retE ?_ | refine end_normE ?_); simp only [fin, go_sem])
  refine LeA.of_eq ?_
  rw [hA]
  have e1 : decide (e ≠ 0) = (e != 0) := by rw [Bool.eq_iff_iff]; simp
  have e2 : decide (ts.length = 2) = !((ts.length : Int) != 2) := by rw [Bool.eq_iff_iff]; simp; omega
  rw [e1, e2]
  cases (e != 0) <;> cases ((ts.length : Int) != 2) <;> cases ((ts.getD 0 ⟨0, [], 0, 0⟩).t == a.t) <;> cases ((ts.getD 1 ⟨0, [], 0, 0⟩).t == b.t) <;> rfl
noncomputable def con25 : PCon Tryd.prog where
  f := 25
  c := fun
    | [xa, xb] => match unTok xa, unTok xb with | some a, some b => some (a.t.length + b.t.length ≤ 1000000, .lit (.bool (apartS a.t b.t))) | _, _ => none
    | _ => none
  ok := by
    intro args p r hc hp
    split at hc
    · split at hc
      · rename_i ha hb
        cases hc
        exact PC.weak (rapart_pc hp) ⟨unTok_le ha, unTok_le hb, trivial⟩
      · cases hc
    · cases hc
  fk := fk25
theorem con25_f : con25.f = 25 := rfl
theorem con25_c {xa : AV} {xb : AV} : con25.c [xa, xb] = match unTok xa, unTok xb with | some a, some b => some (a.t.length + b.t.length ≤ 1000000, .lit (.bool (apartS a.t b.t))) | _, _ => none := rfl
attribute [go_sem] con24_f con24_c con25_f con25_c
theorem own_pc {l : List Tok} (hl : l.length ≤ 1000000000) : PC Tryd.prog 27 [.sl false 4 (toks l)] (.sl false 4 (toks l)) := by
  refine pc_ofR E26_ok mixed (kp27) (rs := [.tmp 2]) Tryd.func27 rfl (by kernel_rfl) (by kernel_rfl) (Nat.le_of_ble_eq_true rfl) ?_
  simp only [initF_cons, initF_nil, Nat.reduceAdd]
  refine t_name fun KF => ?_
  unfold E26
  repeat' (first
   | (with_reducible first | refine t_seq fun K => ?_ | refine t_block ?_ | refine t_scope ?_ | refine t_label ?_ | refine t_skip ?_ | refine t_exit ?_ | refine t_ret ?_ | refine t_k ?_ | refine t_gF ?_ | exact kp_nil | exact Kp.refl _ | exact kp_to | refine kp_cons ?_ | refine kp_arr ?_ | refine kp_app ?_ | refine t_p ?_ | refine t_br (fun hc => ?_) fun hc => ?_)
   | ((with_reducible first | refine t_kE (t_openE ?_) | refine t_kD (t_openD ?_) | refine t_kE ?_ | refine t_kD ?_ | refine t_gS ?_ | refine t_kL ?_ | refine t_kLF ?_ ?_ | refine t_region fun K => ?_ | refine t_cond fun A B => ?_ | refine t_draw (by kernel_rfl) fun K => ?_); (try (first | refine t_hideE fun KL => ?_ | refine t_hideD fun KL => ?_)); simp only [go_sem, geff, kp27])
   | ((with_reducible refine kp_skip ?_ ?_); rfl) | simp only [thenQ, blockQ, scopeQ, Nat.reduceEqDiff, reduceIte] | (with_reducible first | refine And.intro ?_ ?_ | intro vr))
  all_goals try (first | (with_reducible assumption) | (intros; (try simp only [Bool.and_eq_true, Bool.or_eq_true, Bool.or_eq_false_iff, Bool.not_eq_true', Bool.not_eq_false', decide_eq_true_eq, decide_eq_false_iff_not, beq_iff_eq, beq_eq_false_iff_ne, bne_iff_ne, bne_eq_false_iff_eq, ne_eq, inI64, List.length_append] at *) <;> omega) | (intros; (with_reducible first | refine impB_ofR ?_ | refine and_ofB ?_ ?_) <;> with_reducible first | assumption | (refine impB_ofR ?_; assumption)) | ((try simp only [Bool.and_eq_true] at vr); simp only [impB, vr, Bool.or_true, Bool.true_or, Bool.and_self, Bool.not_true, Bool.not_false, Bool.and_true]; done))
  refine t_loopF (ι := { p : Nat × Nat // p.1 ≤ l.length }) (fun i => [(4, .lit (.int .i64 i.1.1)), (3, .arr 0 i.1.2)]) (fun i => [.arr 36 4 (toks (l.take i.1.1)) i.1.2 false]) (fun i => l.length - i.1.1) ⟨(0, 0), by simp⟩ ?_ ?_
  · refine (le_nil 3 36 4 rfl).trans ?_
    simp only [updL_nil, updL_cons, delF_top, delF_upd, Nat.reduceEqDiff, reduceIte]
    refine Le.frameS (by first | rfl | (simp only [go_sem]; try rfl)) ?_
    repeat' (first | exact leF_top _ | exact (fun _ => LeR.refl _) | (with_reducible refine leF_sl ?_ ?_) | (refine leF_upd ?_ ?_))
    all_goals (first | exact LeR.top _ | exact LeR.refl _ | (refine LeR.of_eq ?_; (try simp only [go_sem]); try rfl) | ((try simp only [go_sem]); try rfl))
  rintro ⟨⟨i, ver⟩, hi⟩ K0
  simp only at hi
  rcases Nat.lt_or_ge i l.length with hlt | hge
  · have g5 : decide ((i : Int) < (l.length : Int)) = true := decide_eq_true (by omega)
    have hs : l.take (i + 1) = l.take i ++ [⟨(l.getD i ⟨0, [], 0, 0⟩).k, (l.getD i ⟨0, [], 0, 0⟩).t, (l.getD i ⟨0, [], 0, 0⟩).line, (l.getD i ⟨0, [], 0, 0⟩).at_⟩] := by
      rw [List.take_add_one, List.getD_eq_getElem?_getD, List.getElem?_eq_getElem hlt]; rfl
    repeat' (first
     | (with_reducible first | refine t_seq fun K => ?_ | refine t_block ?_ | refine t_scope ?_ | refine t_label ?_ | refine t_skip ?_ | refine t_exit ?_ | refine t_ret ?_ | refine t_k ?_ | refine t_gF ?_ | exact kp_nil | exact Kp.refl _ | exact kp_to | refine kp_cons ?_ | refine kp_arr ?_ | refine kp_app ?_ | refine t_p ?_ | refine t_br (fun hc => ?_) fun hc => ?_)
     | ((with_reducible first | refine t_kE (t_openE ?_) | refine t_kD (t_openD ?_) | refine t_kE ?_ | refine t_kD ?_ | refine t_gS ?_ | refine t_kL ?_ | refine t_kLF ?_ ?_ | refine t_region fun K => ?_ | refine t_cond fun A B => ?_ | refine t_draw (by kernel_rfl) fun K => ?_); (try (first | refine t_hideE fun KL => ?_ | refine t_hideD fun KL => ?_)); simp only [go_sem, geff, kp27, updL_cons, updL_nil, Int.toNat_natCast, g5, tokV])
     | ((with_reducible refine kp_skip ?_ ?_); rfl) | simp only [thenQ, blockQ, scopeQ, Nat.reduceEqDiff, reduceIte] | (with_reducible first | refine And.intro ?_ ?_ | intro vr))
    all_goals try (first | (with_reducible assumption) | (intros; (try simp only [Bool.and_eq_true, Bool.or_eq_true, Bool.or_eq_false_iff, Bool.not_eq_true', Bool.not_eq_false', decide_eq_true_eq, decide_eq_false_iff_not, beq_iff_eq, beq_eq_false_iff_ne, bne_iff_ne, bne_eq_false_iff_eq, ne_eq, inI64, List.length_append, List.length_take] at *) <;> omega) | (intros; (with_reducible first | refine impB_ofR ?_ | refine and_ofB ?_ ?_) <;> with_reducible first | assumption | (refine impB_ofR ?_; assumption)) | ((try simp only [Bool.and_eq_true] at vr); simp only [impB, vr, Bool.or_true, Bool.true_or, Bool.and_self, Bool.not_true, Bool.not_false, Bool.and_true]; done))
    rw [← hs]
    refine ⟨⟨(i + 1, ver + 1), by simp only; omega⟩, by first | (simp only; omega) | omega, ?_⟩
    simp only [updL_nil, updL_cons, delF_top, delF_upd, Nat.reduceEqDiff, reduceIte]
    refine Le.frameS (by first | rfl | (simp only [go_sem]; try rfl)) ?_
    repeat' (first | exact leF_top _ | exact (fun _ => LeR.refl _) | (with_reducible refine leF_sl ?_ ?_) | (refine leF_upd ?_ ?_))
    all_goals (first | exact LeR.top _ | exact LeR.refl _ | (refine LeR.of_eq ?_; (try simp only [go_sem]); try rfl) | ((try simp only [go_sem]); try rfl))
  · have g5 : decide ((i : Int) < (l.length : Int)) = false := decide_eq_false (by omega)
    have e : i = l.length := by omega
    subst e
    rw [List.take_length] at *
    repeat' (first
     | (with_reducible first | refine t_seq fun K => ?_ | refine t_block ?_ | refine t_scope ?_ | refine t_label ?_ | refine t_skip ?_ | refine t_exit ?_ | refine t_ret ?_ | refine t_k ?_ | refine t_gF ?_ | exact kp_nil | exact Kp.refl _ | exact kp_to | refine kp_cons ?_ | refine kp_arr ?_ | refine kp_app ?_ | refine t_p ?_ | refine t_br (fun hc => ?_) fun hc => ?_)
     | ((with_reducible first | refine t_kE (t_openE ?_) | refine t_kD (t_openD ?_) | refine t_kE ?_ | refine t_kD ?_ | refine t_gS ?_ | refine t_kL ?_ | refine t_kLF ?_ ?_ | refine t_region fun K => ?_ | refine t_cond fun A B => ?_ | refine t_draw (by kernel_rfl) fun K => ?_); (try (first | refine t_hideE fun KL => ?_ | refine t_hideD fun KL => ?_)); simp only [go_sem, geff, kp27, updL_cons, updL_nil, Int.toNat_natCast, g5])
     | ((with_reducible refine kp_skip ?_ ?_); rfl) | simp only [thenQ, blockQ, scopeQ, Nat.reduceEqDiff, reduceIte] | (with_reducible first | refine And.intro ?_ ?_ | intro vr))
    all_goals try (first | (with_reducible assumption) | (intros; (try simp only [Bool.and_eq_true, Bool.or_eq_true, Bool.or_eq_false_iff, Bool.not_eq_true', Bool.not_eq_false', decide_eq_true_eq, decide_eq_false_iff_not, beq_iff_eq, beq_eq_false_iff_ne, bne_iff_ne, bne_eq_false_iff_eq, ne_eq, inI64, List.length_append] at *) <;> omega) | (intros; (with_reducible first | refine impB_ofR ?_ | refine and_ofB ?_ ?_) <;> with_reducible first | assumption | (refine impB_ofR ?_; assumption)) | ((try simp only [Bool.and_eq_true] at vr); simp only [impB, vr, Bool.or_true, Bool.true_or, Bool.and_self, Bool.not_true, Bool.not_false, Bool.and_true]; done))
    all_goals ((first | refine end_retE ?_ | refine end_normE ?_); simp only [fin, go_sem])
    exact LeA.refl _
noncomputable def con27 : PCon Tryd.prog where
  f := 27
  c := fun
    | [xl] => match tkOf xl with | some l => some (l.length ≤ 1000000000, .sl false 4 (toks l)) | _ => none
    | _ => none
  ok := by
    intro args p r hc hp
    split at hc
    · split at hc
      · rename_i hl
        cases hc
        exact PC.weak (own_pc hp) ⟨tkOf_le hl, trivial⟩
      · cases hc
    · cases hc
  fk := fk27
theorem con27_f : con27.f = 27 := rfl
theorem con27_c {xl : AV} : con27.c [xl] = match tkOf xl with | some l => some (l.length ≤ 1000000000, .sl false 4 (toks l)) | _ => none := rfl
/-! ### The reference's Join -/
/-- The text of the first tokens. -/
def joinP (l : List Tok) : Nat → List UInt8
  | 0 => []
  | i + 1 => joinP l i ++ ((if i = 0 then [] else sepS (l.getD (i - 1) ⟨0, [], 0, 0⟩) (l.getD i ⟨0, [], 0, 0⟩)) ++ (l.getD i ⟨0, [], 0, 0⟩).t)
theorem joinP_T {l : List Tok} : ∀ (ts : List Tok) (p : Tok) (i : Nat), l.drop i = p :: ts → joinP l l.length = joinP l (i + 1) ++ joinT p ts
  | [], p, i, h => by
    have hl := congrArg List.length h
    simp at hl
    rw [show l.length = i + 1 by omega]; simp [joinT]
  | t :: ts, p, i, h => by
    have hl := congrArg List.length h
    simp at hl
    have h1 : l.drop (i + 1) = t :: ts := by rw [← List.drop_drop, h]; rfl
    have hp : l.getD i ⟨0, [], 0, 0⟩ = p := by
      have := drop_tok (l := l) (i := i) (by omega)
      rw [h] at this; exact (List.cons.inj this).1.symm
    have ht : l.getD (i + 1) ⟨0, [], 0, 0⟩ = t := by
      have := drop_tok (l := l) (i := i + 1) (by omega)
      rw [h1] at this; exact (List.cons.inj this).1.symm
    rw [joinP_T ts t (i + 1) h1, joinP]
    rw [if_neg (by omega), show i + 1 - 1 = i by omega, hp, ht, joinT]
    simp
theorem joinP_S (l : List Tok) : joinP l l.length = joinS l := by
  cases l with
  | nil => rfl
  | cons t ts =>
    rw [joinP_T ts t 0 rfl]
    simp [joinP, joinS]
def shortT (l : List Tok) : Prop := l.length ≤ 4000 ∧ ∀ t ∈ l, t.t.length ≤ 1000
theorem short_get {l : List Tok} (h : shortT l) (i : Nat) : (l.getD i ⟨0, [], 0, 0⟩).t.length ≤ 1000 := by
  rcases Nat.lt_or_ge i l.length with hi | hi
  · exact h.2 _ (getD_mem _ hi)
  · rw [List.getD_eq_getElem?_getD, List.getElem?_eq_none hi]; simp
theorem sepS_len (p t : Tok) : (sepS p t).length ≤ 1 := by
  unfold sepS
  split
  · simp
  · split <;> simp
theorem joinP_len {l : List Tok} (h : shortT l) : ∀ i, (joinP l i).length ≤ 1001 * i
  | 0 => by simp [joinP]
  | i + 1 => by
    have := joinP_len h i
    have h1 := short_get h i
    have h2 := sepS_len (l.getD (i - 1) ⟨0, [], 0, 0⟩) (l.getD i ⟨0, [], 0, 0⟩)
    rw [joinP]
    split <;> simp only [List.length_append, List.length_nil] <;> omega
noncomputable def E37 : Env := envJ (P := Tryd.prog) jk zer (fun _ => false) (fun _ => false) [con25] []
theorem E37_ok : EnvOk Tryd.prog E37 := envJOk zer_ok
set_option maxHeartbeats 2000000 in
theorem rjoin_pc {l : List Tok} (hl : shortT l) : PC Tryd.prog 28 [.sl false 4 (toks l)] (.lit (.string (bs (joinS l)))) := by
  have hl1 := hl.1
  rw [← joinP_S]
  refine pc_ofR E37_ok mixed (kp28) (rs := [.tmp 2]) Tryd.func28 rfl (by kernel_rfl) (by kernel_rfl) (Nat.le_of_ble_eq_true rfl) ?_
  simp only [initF_cons, initF_nil, Nat.reduceAdd]
  refine t_name fun KF => ?_
  unfold E37
  repeat' (first
   | (with_reducible first | refine t_seq fun K => ?_ | refine t_block ?_ | refine t_scope ?_ | refine t_label ?_ | refine t_skip ?_ | refine t_exit ?_ | refine t_ret ?_ | refine t_k ?_ | refine t_gF ?_ | exact kp_nil | exact Kp.refl _ | exact kp_to | refine kp_cons ?_ | refine kp_arr ?_ | refine kp_app ?_ | refine t_p ?_ | refine t_br (fun hc => ?_) fun hc => ?_)
   | ((with_reducible first | refine t_kE (t_openE ?_) | refine t_kD (t_openD ?_) | refine t_kE ?_ | refine t_kD ?_ | refine t_gS ?_ | refine t_kL ?_ | refine t_kLF ?_ ?_ | refine t_region fun K => ?_ | refine t_cond fun A B => ?_ | refine t_draw (by kernel_rfl) fun K => ?_); (try (first | refine t_hideE fun KL => ?_ | refine t_hideD fun KL => ?_)); simp only [go_sem, geff, kp28])
   | ((with_reducible refine kp_skip ?_ ?_); rfl) | simp only [thenQ, blockQ, scopeQ, Nat.reduceEqDiff, reduceIte] | (with_reducible first | refine And.intro ?_ ?_ | intro vr))
  all_goals try (first | (with_reducible assumption) | (intros; (try simp only [Bool.and_eq_true, Bool.or_eq_true, Bool.or_eq_false_iff, Bool.not_eq_true', Bool.not_eq_false', decide_eq_true_eq, decide_eq_false_iff_not, beq_iff_eq, beq_eq_false_iff_ne, bne_iff_ne, bne_eq_false_iff_eq, ne_eq, inI64, List.length_append] at *) <;> omega) | (intros; (with_reducible first | refine impB_ofR ?_ | refine and_ofB ?_ ?_) <;> with_reducible first | assumption | (refine impB_ofR ?_; assumption)) | ((try simp only [Bool.and_eq_true] at vr); simp only [impB, vr, Bool.or_true, Bool.true_or, Bool.and_self, Bool.not_true, Bool.not_false, Bool.and_true]; done))
  refine t_loopF (ι := { i : Nat // i ≤ l.length }) (fun i => [(4, .lit (.int .i64 i.1)), (3, .lit (.string (bs (joinP l i.1))))]) (fun i => []) (fun i => l.length - i.1) ⟨0, by omega⟩ ?_ ?_
  · simp only [updL_nil, updL_cons, delF_top, delF_upd, Nat.reduceEqDiff, reduceIte]
    refine Le.frameS (by first | rfl | (simp only [go_sem]; try rfl)) ?_
    repeat' (first | exact leF_top _ | exact (fun _ => LeR.refl _) | (with_reducible refine leF_sl ?_ ?_) | (refine leF_upd ?_ ?_))
    all_goals (first | exact LeR.top _ | exact LeR.refl _ | (refine LeR.of_eq ?_; (try simp only [go_sem]); try rfl) | ((try simp only [go_sem]); try rfl))
  rintro ⟨i, hi⟩ K0
  have hjl := joinP_len hl i
  rcases Nat.lt_or_ge i l.length with hlt | hge
  · have g5 : decide ((i : Int) < (l.length : Int)) = true := decide_eq_true (by omega)
    have h1 := short_get hl i
    have hJ : joinP l (i + 1) = joinP l i ++ ((if i = 0 then [] else sepS (l.getD (i - 1) ⟨0, [], 0, 0⟩) (l.getD i ⟨0, [], 0, 0⟩)) ++ (l.getD i ⟨0, [], 0, 0⟩).t) := rfl
    cases i with
    | zero =>
      have g6 : decide (((0 : Nat) : Int) > 0) = false := rfl
      rw [if_pos rfl, List.nil_append] at hJ
      repeat' (first
       | (with_reducible first | refine t_seq fun K => ?_ | refine t_block ?_ | refine t_scope ?_ | refine t_label ?_ | refine t_skip ?_ | refine t_exit ?_ | refine t_ret ?_ | refine t_k ?_ | refine t_gF ?_ | exact kp_nil | exact Kp.refl _ | exact kp_to | refine kp_cons ?_ | refine kp_arr ?_ | refine kp_app ?_ | refine t_p ?_ | refine t_br (fun hc => ?_) fun hc => ?_)
       | ((with_reducible first | refine t_kE (t_openE ?_) | refine t_kD (t_openD ?_) | refine t_kE ?_ | refine t_kD ?_ | refine t_gS ?_ | refine t_kL ?_ | refine t_kLF ?_ ?_ | refine t_region fun K => ?_ | refine t_cond fun A B => ?_ | refine t_draw (by kernel_rfl) fun K => ?_); (try (first | refine t_hideE fun KL => ?_ | refine t_hideD fun KL => ?_)); simp only [go_sem, geff, kp28, updL_cons, updL_nil, Int.toNat_natCast, g5, g6, tokV])
       | ((with_reducible refine kp_skip ?_ ?_); rfl) | simp only [thenQ, blockQ, scopeQ, Nat.reduceEqDiff, reduceIte] | (with_reducible first | refine And.intro ?_ ?_ | intro vr))
      all_goals try (first | (with_reducible assumption) | (intros; (try simp only [Bool.and_eq_true, Bool.or_eq_true, Bool.or_eq_false_iff, Bool.not_eq_true', Bool.not_eq_false', decide_eq_true_eq, decide_eq_false_iff_not, beq_iff_eq, beq_eq_false_iff_ne, bne_iff_ne, bne_eq_false_iff_eq, ne_eq, inI64, List.length_append] at *) <;> omega) | (intros; (with_reducible first | refine impB_ofR ?_ | refine and_ofB ?_ ?_) <;> with_reducible first | assumption | (refine impB_ofR ?_; assumption)) | ((try simp only [Bool.and_eq_true] at vr); simp only [impB, vr, Bool.or_true, Bool.true_or, Bool.and_self, Bool.not_true, Bool.not_false, Bool.and_true]; done))
      rw [← hJ]
      refine ⟨⟨1, by omega⟩, by first | (simp only; omega) | omega, ?_⟩
      simp only [updL_nil, updL_cons, delF_top, delF_upd, Nat.reduceEqDiff, reduceIte]
      refine Le.frameS (by first | rfl | (simp only [go_sem]; try rfl)) ?_
      repeat' (first | exact leF_top _ | exact (fun _ => LeR.refl _) | (with_reducible refine leF_sl ?_ ?_) | (refine leF_upd ?_ ?_))
      all_goals (first | exact LeR.top _ | exact LeR.refl _ | (refine LeR.of_eq ?_; (try simp only [go_sem]); try rfl) | ((try simp only [go_sem]); try rfl))
    | succ i =>
      have h2 := short_get hl i
      have g6 : decide (((i + 1 : Nat) : Int) > 0) = true := decide_eq_true (by omega)
      have e1 : (((i + 1 : Nat) : Int) - 1).toNat = i := by omega
      rw [if_neg (by omega), show i + 1 - 1 = i by omega, sepS] at hJ
      cases h7 : decide ((l.getD (i + 1) ⟨0, [], 0, 0⟩).line > (l.getD i ⟨0, [], 0, 0⟩).line) with
      | true =>
        rw [if_pos (by simpa using h7)] at hJ
        repeat' (first
         | (with_reducible first | refine t_seq fun K => ?_ | refine t_block ?_ | refine t_scope ?_ | refine t_label ?_ | refine t_skip ?_ | refine t_exit ?_ | refine t_ret ?_ | refine t_k ?_ | refine t_gF ?_ | exact kp_nil | exact Kp.refl _ | exact kp_to | refine kp_cons ?_ | refine kp_arr ?_ | refine kp_app ?_ | refine t_p ?_ | refine t_br (fun hc => ?_) fun hc => ?_)
         | ((with_reducible first | refine t_kE (t_openE ?_) | refine t_kD (t_openD ?_) | refine t_kE ?_ | refine t_kD ?_ | refine t_gS ?_ | refine t_kL ?_ | refine t_kLF ?_ ?_ | refine t_region fun K => ?_ | refine t_cond fun A B => ?_ | refine t_draw (by kernel_rfl) fun K => ?_); (try (first | refine t_hideE fun KL => ?_ | refine t_hideD fun KL => ?_)); simp only [go_sem, geff, kp28, updL_cons, updL_nil, Int.toNat_natCast, g5, g6, tokV, e1, h7])
         | ((with_reducible refine kp_skip ?_ ?_); rfl) | simp only [thenQ, blockQ, scopeQ, Nat.reduceEqDiff, reduceIte] | (with_reducible first | refine And.intro ?_ ?_ | intro vr))
        all_goals try (first | (with_reducible assumption) | (intros; (try simp only [Bool.and_eq_true, Bool.or_eq_true, Bool.or_eq_false_iff, Bool.not_eq_true', Bool.not_eq_false', decide_eq_true_eq, decide_eq_false_iff_not, beq_iff_eq, beq_eq_false_iff_ne, bne_iff_ne, bne_eq_false_iff_eq, ne_eq, inI64, List.length_append] at *) <;> omega) | (intros; (with_reducible first | refine impB_ofR ?_ | refine and_ofB ?_ ?_) <;> with_reducible first | assumption | (refine impB_ofR ?_; assumption)) | ((try simp only [Bool.and_eq_true] at vr); simp only [impB, vr, Bool.or_true, Bool.true_or, Bool.and_self, Bool.not_true, Bool.not_false, Bool.and_true]; done))
        rw [List.append_assoc, ← hJ]
        refine ⟨⟨i + 2, by omega⟩, by first | (simp only; omega) | omega, ?_⟩
        simp only [updL_nil, updL_cons, delF_top, delF_upd, Nat.reduceEqDiff, reduceIte]
        refine Le.frameS (by first | rfl | (simp only [go_sem]; try rfl)) ?_
        repeat' (first | exact leF_top _ | exact (fun _ => LeR.refl _) | (with_reducible refine leF_sl ?_ ?_) | (refine leF_upd ?_ ?_))
        all_goals (first | exact LeR.top _ | exact LeR.refl _ | (refine LeR.of_eq ?_; (try simp only [go_sem]); try rfl) | ((try simp only [go_sem]); try rfl))
      | false =>
        rw [if_neg (by simpa using h7)] at hJ
        have hln : (l.getD i ⟨0, [], 0, 0⟩).t.length + (l.getD (i + 1) ⟨0, [], 0, 0⟩).t.length ≤ 1000000 := by
          have := short_get hl (i + 1); omega
        cases h8 : apartS (l.getD i ⟨0, [], 0, 0⟩).t (l.getD (i + 1) ⟨0, [], 0, 0⟩).t with
        | true =>
          rw [if_pos h8] at hJ
          repeat' (first
           | (with_reducible first | refine t_seq fun K => ?_ | refine t_block ?_ | refine t_scope ?_ | refine t_label ?_ | refine t_skip ?_ | refine t_exit ?_ | refine t_ret ?_ | refine t_k ?_ | refine t_gF ?_ | exact kp_nil | exact Kp.refl _ | exact kp_to | refine kp_cons ?_ | refine kp_arr ?_ | refine kp_app ?_ | refine t_p ?_ | refine t_br (fun hc => ?_) fun hc => ?_)
           | ((with_reducible first | refine t_kE (t_openE ?_) | refine t_kD (t_openD ?_) | refine t_kE ?_ | refine t_kD ?_ | refine t_gS ?_ | refine t_kL ?_ | refine t_kLF ?_ ?_ | refine t_region fun K => ?_ | refine t_cond fun A B => ?_ | refine t_draw (by kernel_rfl) fun K => ?_); (try (first | refine t_hideE fun KL => ?_ | refine t_hideD fun KL => ?_)); simp only [go_sem, geff, kp28, updL_cons, updL_nil, Int.toNat_natCast, g5, g6, tokV, e1, h7, h8])
           | ((with_reducible refine kp_skip ?_ ?_); rfl) | simp only [thenQ, blockQ, scopeQ, Nat.reduceEqDiff, reduceIte] | (with_reducible first | refine And.intro ?_ ?_ | intro vr))
          all_goals try (first | (with_reducible assumption) | (intros; (try simp only [Bool.and_eq_true, Bool.or_eq_true, Bool.or_eq_false_iff, Bool.not_eq_true', Bool.not_eq_false', decide_eq_true_eq, decide_eq_false_iff_not, beq_iff_eq, beq_eq_false_iff_ne, bne_iff_ne, bne_eq_false_iff_eq, ne_eq, inI64, List.length_append] at *) <;> omega) | (intros; (with_reducible first | refine impB_ofR ?_ | refine and_ofB ?_ ?_) <;> with_reducible first | assumption | (refine impB_ofR ?_; assumption)) | ((try simp only [Bool.and_eq_true] at vr); simp only [impB, vr, Bool.or_true, Bool.true_or, Bool.and_self, Bool.not_true, Bool.not_false, Bool.and_true]; done))
          rw [List.append_assoc, ← hJ]
          refine ⟨⟨i + 2, by omega⟩, by first | (simp only; omega) | omega, ?_⟩
          simp only [updL_nil, updL_cons, delF_top, delF_upd, Nat.reduceEqDiff, reduceIte]
          refine Le.frameS (by first | rfl | (simp only [go_sem]; try rfl)) ?_
          repeat' (first | exact leF_top _ | exact (fun _ => LeR.refl _) | (with_reducible refine leF_sl ?_ ?_) | (refine leF_upd ?_ ?_))
          all_goals (first | exact LeR.top _ | exact LeR.refl _ | (refine LeR.of_eq ?_; (try simp only [go_sem]); try rfl) | ((try simp only [go_sem]); try rfl))
        | false =>
          rw [if_neg (by rw [h8]; simp)] at hJ
          repeat' (first
           | (with_reducible first | refine t_seq fun K => ?_ | refine t_block ?_ | refine t_scope ?_ | refine t_label ?_ | refine t_skip ?_ | refine t_exit ?_ | refine t_ret ?_ | refine t_k ?_ | refine t_gF ?_ | exact kp_nil | exact Kp.refl _ | exact kp_to | refine kp_cons ?_ | refine kp_arr ?_ | refine kp_app ?_ | refine t_p ?_ | refine t_br (fun hc => ?_) fun hc => ?_)
           | ((with_reducible first | refine t_kE (t_openE ?_) | refine t_kD (t_openD ?_) | refine t_kE ?_ | refine t_kD ?_ | refine t_gS ?_ | refine t_kL ?_ | refine t_kLF ?_ ?_ | refine t_region fun K => ?_ | refine t_cond fun A B => ?_ | refine t_draw (by kernel_rfl) fun K => ?_); (try (first | refine t_hideE fun KL => ?_ | refine t_hideD fun KL => ?_)); simp only [go_sem, geff, kp28, updL_cons, updL_nil, Int.toNat_natCast, g5, g6, tokV, e1, h7, h8])
           | ((with_reducible refine kp_skip ?_ ?_); rfl) | simp only [thenQ, blockQ, scopeQ, Nat.reduceEqDiff, reduceIte] | (with_reducible first | refine And.intro ?_ ?_ | intro vr))
          all_goals try (first | (with_reducible assumption) | (intros; (try simp only [Bool.and_eq_true, Bool.or_eq_true, Bool.or_eq_false_iff, Bool.not_eq_true', Bool.not_eq_false', decide_eq_true_eq, decide_eq_false_iff_not, beq_iff_eq, beq_eq_false_iff_ne, bne_iff_ne, bne_eq_false_iff_eq, ne_eq, inI64, List.length_append] at *) <;> omega) | (intros; (with_reducible first | refine impB_ofR ?_ | refine and_ofB ?_ ?_) <;> with_reducible first | assumption | (refine impB_ofR ?_; assumption)) | ((try simp only [Bool.and_eq_true] at vr); simp only [impB, vr, Bool.or_true, Bool.true_or, Bool.and_self, Bool.not_true, Bool.not_false, Bool.and_true]; done))
          rw [List.nil_append] at hJ
          rw [← hJ]
          refine ⟨⟨i + 2, by omega⟩, by first | (simp only; omega) | omega, ?_⟩
          simp only [updL_nil, updL_cons, delF_top, delF_upd, Nat.reduceEqDiff, reduceIte]
          refine Le.frameS (by first | rfl | (simp only [go_sem]; try rfl)) ?_
          repeat' (first | exact leF_top _ | exact (fun _ => LeR.refl _) | (with_reducible refine leF_sl ?_ ?_) | (refine leF_upd ?_ ?_))
          all_goals (first | exact LeR.top _ | exact LeR.refl _ | (refine LeR.of_eq ?_; (try simp only [go_sem]); try rfl) | ((try simp only [go_sem]); try rfl))
  · have g5 : decide ((i : Int) < (l.length : Int)) = false := decide_eq_false (by omega)
    have e : i = l.length := by omega
    subst e
    repeat' (first
     | (with_reducible first | refine t_seq fun K => ?_ | refine t_block ?_ | refine t_scope ?_ | refine t_label ?_ | refine t_skip ?_ | refine t_exit ?_ | refine t_ret ?_ | refine t_k ?_ | refine t_gF ?_ | exact kp_nil | exact Kp.refl _ | exact kp_to | refine kp_cons ?_ | refine kp_arr ?_ | refine kp_app ?_ | refine t_p ?_ | refine t_br (fun hc => ?_) fun hc => ?_)
     | ((with_reducible first | refine t_kE (t_openE ?_) | refine t_kD (t_openD ?_) | refine t_kE ?_ | refine t_kD ?_ | refine t_gS ?_ | refine t_kL ?_ | refine t_kLF ?_ ?_ | refine t_region fun K => ?_ | refine t_cond fun A B => ?_ | refine t_draw (by kernel_rfl) fun K => ?_); (try (first | refine t_hideE fun KL => ?_ | refine t_hideD fun KL => ?_)); simp only [go_sem, geff, kp28, updL_cons, updL_nil, Int.toNat_natCast, g5])
     | ((with_reducible refine kp_skip ?_ ?_); rfl) | simp only [thenQ, blockQ, scopeQ, Nat.reduceEqDiff, reduceIte] | (with_reducible first | refine And.intro ?_ ?_ | intro vr))
    all_goals try (first | (with_reducible assumption) | (intros; (try simp only [Bool.and_eq_true, Bool.or_eq_true, Bool.or_eq_false_iff, Bool.not_eq_true', Bool.not_eq_false', decide_eq_true_eq, decide_eq_false_iff_not, beq_iff_eq, beq_eq_false_iff_ne, bne_iff_ne, bne_eq_false_iff_eq, ne_eq, inI64, List.length_append] at *) <;> omega) | (intros; (with_reducible first | refine impB_ofR ?_ | refine and_ofB ?_ ?_) <;> with_reducible first | assumption | (refine impB_ofR ?_; assumption)) | ((try simp only [Bool.and_eq_true] at vr); simp only [impB, vr, Bool.or_true, Bool.true_or, Bool.and_self, Bool.not_true, Bool.not_false, Bool.and_true]; done))
    all_goals ((first | refine end_retE ?_ | refine end_normE ?_); simp only [fin, go_sem])
    exact LeA.refl _
noncomputable def con28 : PCon Tryd.prog where
  f := 28
  c := fun
    | [xl] => match tkOf xl with | some l => some (shortT l, .lit (.string (bs (joinS l)))) | _ => none
    | _ => none
  ok := by
    intro args p r hc hp
    split at hc
    · split at hc
      · rename_i hl
        cases hc
        exact PC.weak (rjoin_pc hp) ⟨tkOf_le hl, trivial⟩
      · cases hc
    · cases hc
  fk := fk28
theorem con28_f : con28.f = 28 := rfl
theorem con28_c {xl : AV} : con28.c [xl] = match tkOf xl with | some l => some (shortT l, .lit (.string (bs (joinS l)))) | _ => none := rfl
attribute [go_sem] con28_f con28_c
end Go.Proofs.YtkkamgblakhmiaaDoor
