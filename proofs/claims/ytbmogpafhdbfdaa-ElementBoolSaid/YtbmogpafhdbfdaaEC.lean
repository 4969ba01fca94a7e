/- The values of primitives. -/
import Derived.Test.YtbmogpafhdbfdaaEB

set_option linter.all false

namespace Go.Proofs.Ytbmogpafhdbfdaa
open Go Go.Fw

theorem vld_int {n : Int} : vld sInt n = true ↔ el n := by
  unfold vld el
  rw [if_pos (eqS_refl _)]
  simp
theorem vld_bool {n : Int} : vld sBool n = true ↔ n = 0 ∨ n = 1 := by
  unfold vld
  rw [if_neg (show ¬ eqS sBool sInt = true by decide), if_pos (eqS_refl _)]
  simp
theorem flo_spec {a b : Int} (hb : b ≠ 0) : (0 < b → 0 ≤ a - b * flo a b ∧ a - b * flo a b < b) ∧ (b < 0 → a - b * flo a b ≤ 0 ∧ b < a - b * flo a b) := by
  have e := Int.mul_tdiv_add_tmod a b
  have p1 : 0 ≤ a → 0 ≤ a.tmod b := Int.tmod_nonneg b
  have p2 : a ≤ 0 → a.tmod b ≤ 0 := fun h => by
    have := Int.tmod_nonneg b (show 0 ≤ -a by omega)
    rw [Int.neg_tmod] at this
    omega
  have p3 : (a.tmod b).natAbs < b.natAbs := by
    rw [Int.natAbs_tmod]
    exact Nat.mod_lt _ (by omega)
  unfold flo
  rw [if_neg hb]
  have e2 : b * (a.tdiv b - 1) = b * a.tdiv b - b := by rw [Int.mul_sub, Int.mul_one]
  by_cases h0 : a.tmod b = 0
  · rw [if_neg (fun h => h.1 h0)]
    constructor <;> intro h <;> omega
  · by_cases h1 : decide (a < 0) = decide (b < 0)
    · rw [if_neg (fun h => h.2 h1)]
      have h2 : a < 0 ↔ b < 0 := decide_eq_decide.1 h1
      constructor <;> intro h <;> omega
    · rw [if_pos ⟨h0, h1⟩, e2]
      have h2 : ¬ (a < 0 ↔ b < 0) := fun h => h1 (by rw [decide_eq_decide]; exact h)
      constructor <;> intro h <;> omega
/-- The value of the i-th primitive. -/
def vS : Nat → List Int → Int
  | 0, [a, b] => w32 (a + b)
  | 1, [a, b] => w32 (a - b)
  | 2, [a, b] => w32 (a * b)
  | 3, [a, b] => w32 (flo a b)
  | 4, [a, b] => if b = 0 then 0 else a - b * flo a b
  | 5, [a, b] => minI a b
  | 6, [a, b] => maxI a b
  | 7, [a] => w32 (0 - a)
  | 8, [a] => w32 (maxI a (0 - a))
  | 9, [a] => sgn a
  | 10, [a, b] => tru (decide (a < b))
  | 11, [a, b] => tru (decide (a ≤ b))
  | 12, [a, b] => tru (decide (a > b))
  | 13, [a, b] => tru (decide (a ≥ b))
  | 14, [a, b] => tru (a == b)
  | 15, [a, b] => tru (a != b)
  | 16, [a, b] => minI a b
  | 17, [a, b] => maxI a b
  | 18, [a, b] => if a = b then 0 else 1
  | 19, [a] => 1 - a
  | 20, [a, b, c] => if a = 1 then b else c
  | 21, [a] => a
  | _, _ => 0
def elT (s : ByteArray) : ByteArray := if eqS s sA = true then sInt else s
def okA (ps : List ByteArray) (xs : List Int) : Bool := (ps.zip xs).all fun p => vld (elT p.1) p.2
def psN (i : Nat) : List ByteArray := (rowsL.getD i default).ps
def okL (i : Nat) (xs : List Int) : Prop := xs.length = (psN i).length ∧ okA (psN i) xs = true
def rowIx (op : ByteArray) : Option Nat := (List.range 22).find? fun i => eqS (rowsL.getD i default).op op
theorem ix_0 : rowIx (⟨#[97, 100, 100]⟩ : ByteArray) = some 0 := rfl
theorem ix_1 : rowIx (⟨#[115, 117, 98]⟩ : ByteArray) = some 1 := rfl
theorem ix_2 : rowIx (⟨#[109, 117, 108]⟩ : ByteArray) = some 2 := rfl
theorem ix_3 : rowIx (⟨#[100, 105, 118]⟩ : ByteArray) = some 3 := rfl
theorem ix_4 : rowIx (⟨#[109, 111, 100]⟩ : ByteArray) = some 4 := rfl
theorem ix_5 : rowIx (⟨#[109, 105, 110]⟩ : ByteArray) = some 5 := rfl
theorem ix_6 : rowIx (⟨#[109, 97, 120]⟩ : ByteArray) = some 6 := rfl
theorem ix_7 : rowIx (⟨#[110, 101, 103]⟩ : ByteArray) = some 7 := rfl
theorem ix_8 : rowIx (⟨#[97, 98, 115]⟩ : ByteArray) = some 8 := rfl
theorem ix_9 : rowIx (⟨#[115, 105, 103, 110]⟩ : ByteArray) = some 9 := rfl
theorem ix_10 : rowIx (⟨#[108, 116]⟩ : ByteArray) = some 10 := rfl
theorem ix_11 : rowIx (⟨#[108, 101]⟩ : ByteArray) = some 11 := rfl
theorem ix_12 : rowIx (⟨#[103, 116]⟩ : ByteArray) = some 12 := rfl
theorem ix_13 : rowIx (⟨#[103, 101]⟩ : ByteArray) = some 13 := rfl
theorem ix_14 : rowIx (⟨#[101, 113]⟩ : ByteArray) = some 14 := rfl
theorem ix_15 : rowIx (⟨#[110, 101]⟩ : ByteArray) = some 15 := rfl
theorem ix_16 : rowIx (⟨#[97, 110, 100]⟩ : ByteArray) = some 16 := rfl
theorem ix_17 : rowIx (⟨#[111, 114]⟩ : ByteArray) = some 17 := rfl
theorem ix_18 : rowIx (⟨#[120, 111, 114]⟩ : ByteArray) = some 18 := rfl
theorem ix_19 : rowIx (⟨#[110, 111, 116]⟩ : ByteArray) = some 19 := rfl
theorem ix_20 : rowIx (⟨#[115, 101, 108, 101, 99, 116]⟩ : ByteArray) = some 20 := rfl
theorem ix_21 : rowIx (⟨#[116, 111, 105, 110, 116]⟩ : ByteArray) = some 21 := rfl
theorem ix_cases (op : ByteArray) : (∃ i, i < 22 ∧ op = (rowsL.getD i default).op ∧ rowIx op = some i ∧ typesS op = some (rowsL.getD i default)) ∨ (rowIx op = none ∧ typesS op = none) := by
  by_cases h : ∃ i, i < 22 ∧ op = (rowsL.getD i default).op
  · left
    obtain ⟨i, hi, rfl⟩ := h
    refine ⟨i, hi, rfl, ?_⟩
    have : i = 0 ∨ i = 1 ∨ i = 2 ∨ i = 3 ∨ i = 4 ∨ i = 5 ∨ i = 6 ∨ i = 7 ∨ i = 8 ∨ i = 9 ∨ i = 10 ∨ i = 11 ∨ i = 12 ∨ i = 13 ∨ i = 14 ∨ i = 15 ∨ i = 16 ∨ i = 17 ∨ i = 18 ∨ i = 19 ∨ i = 20 ∨ i = 21 := by omega
    rcases this with rfl | rfl | rfl | rfl | rfl | rfl | rfl | rfl | rfl | rfl | rfl | rfl | rfl | rfl | rfl | rfl | rfl | rfl | rfl | rfl | rfl | rfl
    all_goals exact ⟨rfl, rfl⟩
  · right
    constructor
    · unfold rowIx
      rw [List.find?_eq_none]
      intro i hi he
      exact h ⟨i, by simpa using hi, (eqS_iff.1 he).symm⟩
    · unfold typesS
      rw [List.find?_eq_none]
      intro r hr he
      obtain ⟨i, hi, rfl⟩ := List.mem_iff_getElem.1 hr
      rw [rows_len] at hi
      exact h ⟨i, hi, by rw [getD_elem _ _ (by rw [rows_len]; exact hi)]; exact (eqS_iff.1 he).symm⟩
theorem okL_0 {xs : List Int} : okL 0 xs ↔ ∃ a b, xs = [a, b] ∧ el a ∧ el b := by
  constructor
  · rintro ⟨h1, h2⟩
    match xs, h1, h2 with
    | [a, b], _, h2 =>
      refine ⟨a, b, rfl, ?_⟩
      simp only [okA, psN, rowsL, List.getD_cons_zero, List.getD_cons_succ, List.zip_cons_cons, List.zip_nil_right, List.zip_nil_left, List.all_cons, List.all_nil, Bool.and_true, Bool.and_eq_true] at h2
      exact ⟨vld_int.1 h2.1, vld_int.1 h2.2⟩
  · rintro ⟨a, b, rfl, h0, h1⟩
    refine ⟨rfl, ?_⟩
    simp only [okA, psN, rowsL, List.getD_cons_zero, List.getD_cons_succ, List.zip_cons_cons, List.zip_nil_right, List.zip_nil_left, List.all_cons, List.all_nil, Bool.and_true, Bool.and_eq_true]
    exact ⟨vld_int.2 h0, vld_int.2 h1⟩
theorem okL_1 {xs : List Int} : okL 1 xs ↔ ∃ a b, xs = [a, b] ∧ el a ∧ el b := by
  constructor
  · rintro ⟨h1, h2⟩
    match xs, h1, h2 with
    | [a, b], _, h2 =>
      refine ⟨a, b, rfl, ?_⟩
      simp only [okA, psN, rowsL, List.getD_cons_zero, List.getD_cons_succ, List.zip_cons_cons, List.zip_nil_right, List.zip_nil_left, List.all_cons, List.all_nil, Bool.and_true, Bool.and_eq_true] at h2
      exact ⟨vld_int.1 h2.1, vld_int.1 h2.2⟩
  · rintro ⟨a, b, rfl, h0, h1⟩
    refine ⟨rfl, ?_⟩
    simp only [okA, psN, rowsL, List.getD_cons_zero, List.getD_cons_succ, List.zip_cons_cons, List.zip_nil_right, List.zip_nil_left, List.all_cons, List.all_nil, Bool.and_true, Bool.and_eq_true]
    exact ⟨vld_int.2 h0, vld_int.2 h1⟩
theorem okL_2 {xs : List Int} : okL 2 xs ↔ ∃ a b, xs = [a, b] ∧ el a ∧ el b := by
  constructor
  · rintro ⟨h1, h2⟩
    match xs, h1, h2 with
    | [a, b], _, h2 =>
      refine ⟨a, b, rfl, ?_⟩
      simp only [okA, psN, rowsL, List.getD_cons_zero, List.getD_cons_succ, List.zip_cons_cons, List.zip_nil_right, List.zip_nil_left, List.all_cons, List.all_nil, Bool.and_true, Bool.and_eq_true] at h2
      exact ⟨vld_int.1 h2.1, vld_int.1 h2.2⟩
  · rintro ⟨a, b, rfl, h0, h1⟩
    refine ⟨rfl, ?_⟩
    simp only [okA, psN, rowsL, List.getD_cons_zero, List.getD_cons_succ, List.zip_cons_cons, List.zip_nil_right, List.zip_nil_left, List.all_cons, List.all_nil, Bool.and_true, Bool.and_eq_true]
    exact ⟨vld_int.2 h0, vld_int.2 h1⟩
theorem okL_3 {xs : List Int} : okL 3 xs ↔ ∃ a b, xs = [a, b] ∧ el a ∧ el b := by
  constructor
  · rintro ⟨h1, h2⟩
    match xs, h1, h2 with
    | [a, b], _, h2 =>
      refine ⟨a, b, rfl, ?_⟩
      simp only [okA, psN, rowsL, List.getD_cons_zero, List.getD_cons_succ, List.zip_cons_cons, List.zip_nil_right, List.zip_nil_left, List.all_cons, List.all_nil, Bool.and_true, Bool.and_eq_true] at h2
      exact ⟨vld_int.1 h2.1, vld_int.1 h2.2⟩
  · rintro ⟨a, b, rfl, h0, h1⟩
    refine ⟨rfl, ?_⟩
    simp only [okA, psN, rowsL, List.getD_cons_zero, List.getD_cons_succ, List.zip_cons_cons, List.zip_nil_right, List.zip_nil_left, List.all_cons, List.all_nil, Bool.and_true, Bool.and_eq_true]
    exact ⟨vld_int.2 h0, vld_int.2 h1⟩
theorem okL_4 {xs : List Int} : okL 4 xs ↔ ∃ a b, xs = [a, b] ∧ el a ∧ el b := by
  constructor
  · rintro ⟨h1, h2⟩
    match xs, h1, h2 with
    | [a, b], _, h2 =>
      refine ⟨a, b, rfl, ?_⟩
      simp only [okA, psN, rowsL, List.getD_cons_zero, List.getD_cons_succ, List.zip_cons_cons, List.zip_nil_right, List.zip_nil_left, List.all_cons, List.all_nil, Bool.and_true, Bool.and_eq_true] at h2
      exact ⟨vld_int.1 h2.1, vld_int.1 h2.2⟩
  · rintro ⟨a, b, rfl, h0, h1⟩
    refine ⟨rfl, ?_⟩
    simp only [okA, psN, rowsL, List.getD_cons_zero, List.getD_cons_succ, List.zip_cons_cons, List.zip_nil_right, List.zip_nil_left, List.all_cons, List.all_nil, Bool.and_true, Bool.and_eq_true]
    exact ⟨vld_int.2 h0, vld_int.2 h1⟩
theorem okL_5 {xs : List Int} : okL 5 xs ↔ ∃ a b, xs = [a, b] ∧ el a ∧ el b := by
  constructor
  · rintro ⟨h1, h2⟩
    match xs, h1, h2 with
    | [a, b], _, h2 =>
      refine ⟨a, b, rfl, ?_⟩
      simp only [okA, psN, rowsL, List.getD_cons_zero, List.getD_cons_succ, List.zip_cons_cons, List.zip_nil_right, List.zip_nil_left, List.all_cons, List.all_nil, Bool.and_true, Bool.and_eq_true] at h2
      exact ⟨vld_int.1 h2.1, vld_int.1 h2.2⟩
  · rintro ⟨a, b, rfl, h0, h1⟩
    refine ⟨rfl, ?_⟩
    simp only [okA, psN, rowsL, List.getD_cons_zero, List.getD_cons_succ, List.zip_cons_cons, List.zip_nil_right, List.zip_nil_left, List.all_cons, List.all_nil, Bool.and_true, Bool.and_eq_true]
    exact ⟨vld_int.2 h0, vld_int.2 h1⟩
theorem okL_6 {xs : List Int} : okL 6 xs ↔ ∃ a b, xs = [a, b] ∧ el a ∧ el b := by
  constructor
  · rintro ⟨h1, h2⟩
    match xs, h1, h2 with
    | [a, b], _, h2 =>
      refine ⟨a, b, rfl, ?_⟩
      simp only [okA, psN, rowsL, List.getD_cons_zero, List.getD_cons_succ, List.zip_cons_cons, List.zip_nil_right, List.zip_nil_left, List.all_cons, List.all_nil, Bool.and_true, Bool.and_eq_true] at h2
      exact ⟨vld_int.1 h2.1, vld_int.1 h2.2⟩
  · rintro ⟨a, b, rfl, h0, h1⟩
    refine ⟨rfl, ?_⟩
    simp only [okA, psN, rowsL, List.getD_cons_zero, List.getD_cons_succ, List.zip_cons_cons, List.zip_nil_right, List.zip_nil_left, List.all_cons, List.all_nil, Bool.and_true, Bool.and_eq_true]
    exact ⟨vld_int.2 h0, vld_int.2 h1⟩
theorem okL_7 {xs : List Int} : okL 7 xs ↔ ∃ a, xs = [a] ∧ el a := by
  constructor
  · rintro ⟨h1, h2⟩
    match xs, h1, h2 with
    | [a], _, h2 =>
      refine ⟨a, rfl, ?_⟩
      simp only [okA, psN, rowsL, List.getD_cons_zero, List.getD_cons_succ, List.zip_cons_cons, List.zip_nil_right, List.zip_nil_left, List.all_cons, List.all_nil, Bool.and_true, Bool.and_eq_true] at h2
      exact vld_int.1 h2
  · rintro ⟨a, rfl, h0⟩
    refine ⟨rfl, ?_⟩
    simp only [okA, psN, rowsL, List.getD_cons_zero, List.getD_cons_succ, List.zip_cons_cons, List.zip_nil_right, List.zip_nil_left, List.all_cons, List.all_nil, Bool.and_true, Bool.and_eq_true]
    exact vld_int.2 h0
theorem okL_8 {xs : List Int} : okL 8 xs ↔ ∃ a, xs = [a] ∧ el a := by
  constructor
  · rintro ⟨h1, h2⟩
    match xs, h1, h2 with
    | [a], _, h2 =>
      refine ⟨a, rfl, ?_⟩
      simp only [okA, psN, rowsL, List.getD_cons_zero, List.getD_cons_succ, List.zip_cons_cons, List.zip_nil_right, List.zip_nil_left, List.all_cons, List.all_nil, Bool.and_true, Bool.and_eq_true] at h2
      exact vld_int.1 h2
  · rintro ⟨a, rfl, h0⟩
    refine ⟨rfl, ?_⟩
    simp only [okA, psN, rowsL, List.getD_cons_zero, List.getD_cons_succ, List.zip_cons_cons, List.zip_nil_right, List.zip_nil_left, List.all_cons, List.all_nil, Bool.and_true, Bool.and_eq_true]
    exact vld_int.2 h0
theorem okL_9 {xs : List Int} : okL 9 xs ↔ ∃ a, xs = [a] ∧ el a := by
  constructor
  · rintro ⟨h1, h2⟩
    match xs, h1, h2 with
    | [a], _, h2 =>
      refine ⟨a, rfl, ?_⟩
      simp only [okA, psN, rowsL, List.getD_cons_zero, List.getD_cons_succ, List.zip_cons_cons, List.zip_nil_right, List.zip_nil_left, List.all_cons, List.all_nil, Bool.and_true, Bool.and_eq_true] at h2
      exact vld_int.1 h2
  · rintro ⟨a, rfl, h0⟩
    refine ⟨rfl, ?_⟩
    simp only [okA, psN, rowsL, List.getD_cons_zero, List.getD_cons_succ, List.zip_cons_cons, List.zip_nil_right, List.zip_nil_left, List.all_cons, List.all_nil, Bool.and_true, Bool.and_eq_true]
    exact vld_int.2 h0
theorem okL_10 {xs : List Int} : okL 10 xs ↔ ∃ a b, xs = [a, b] ∧ el a ∧ el b := by
  constructor
  · rintro ⟨h1, h2⟩
    match xs, h1, h2 with
    | [a, b], _, h2 =>
      refine ⟨a, b, rfl, ?_⟩
      simp only [okA, psN, rowsL, List.getD_cons_zero, List.getD_cons_succ, List.zip_cons_cons, List.zip_nil_right, List.zip_nil_left, List.all_cons, List.all_nil, Bool.and_true, Bool.and_eq_true] at h2
      exact ⟨vld_int.1 h2.1, vld_int.1 h2.2⟩
  · rintro ⟨a, b, rfl, h0, h1⟩
    refine ⟨rfl, ?_⟩
    simp only [okA, psN, rowsL, List.getD_cons_zero, List.getD_cons_succ, List.zip_cons_cons, List.zip_nil_right, List.zip_nil_left, List.all_cons, List.all_nil, Bool.and_true, Bool.and_eq_true]
    exact ⟨vld_int.2 h0, vld_int.2 h1⟩
theorem okL_11 {xs : List Int} : okL 11 xs ↔ ∃ a b, xs = [a, b] ∧ el a ∧ el b := by
  constructor
  · rintro ⟨h1, h2⟩
    match xs, h1, h2 with
    | [a, b], _, h2 =>
      refine ⟨a, b, rfl, ?_⟩
      simp only [okA, psN, rowsL, List.getD_cons_zero, List.getD_cons_succ, List.zip_cons_cons, List.zip_nil_right, List.zip_nil_left, List.all_cons, List.all_nil, Bool.and_true, Bool.and_eq_true] at h2
      exact ⟨vld_int.1 h2.1, vld_int.1 h2.2⟩
  · rintro ⟨a, b, rfl, h0, h1⟩
    refine ⟨rfl, ?_⟩
    simp only [okA, psN, rowsL, List.getD_cons_zero, List.getD_cons_succ, List.zip_cons_cons, List.zip_nil_right, List.zip_nil_left, List.all_cons, List.all_nil, Bool.and_true, Bool.and_eq_true]
    exact ⟨vld_int.2 h0, vld_int.2 h1⟩
theorem okL_12 {xs : List Int} : okL 12 xs ↔ ∃ a b, xs = [a, b] ∧ el a ∧ el b := by
  constructor
  · rintro ⟨h1, h2⟩
    match xs, h1, h2 with
    | [a, b], _, h2 =>
      refine ⟨a, b, rfl, ?_⟩
      simp only [okA, psN, rowsL, List.getD_cons_zero, List.getD_cons_succ, List.zip_cons_cons, List.zip_nil_right, List.zip_nil_left, List.all_cons, List.all_nil, Bool.and_true, Bool.and_eq_true] at h2
      exact ⟨vld_int.1 h2.1, vld_int.1 h2.2⟩
  · rintro ⟨a, b, rfl, h0, h1⟩
    refine ⟨rfl, ?_⟩
    simp only [okA, psN, rowsL, List.getD_cons_zero, List.getD_cons_succ, List.zip_cons_cons, List.zip_nil_right, List.zip_nil_left, List.all_cons, List.all_nil, Bool.and_true, Bool.and_eq_true]
    exact ⟨vld_int.2 h0, vld_int.2 h1⟩
theorem okL_13 {xs : List Int} : okL 13 xs ↔ ∃ a b, xs = [a, b] ∧ el a ∧ el b := by
  constructor
  · rintro ⟨h1, h2⟩
    match xs, h1, h2 with
    | [a, b], _, h2 =>
      refine ⟨a, b, rfl, ?_⟩
      simp only [okA, psN, rowsL, List.getD_cons_zero, List.getD_cons_succ, List.zip_cons_cons, List.zip_nil_right, List.zip_nil_left, List.all_cons, List.all_nil, Bool.and_true, Bool.and_eq_true] at h2
      exact ⟨vld_int.1 h2.1, vld_int.1 h2.2⟩
  · rintro ⟨a, b, rfl, h0, h1⟩
    refine ⟨rfl, ?_⟩
    simp only [okA, psN, rowsL, List.getD_cons_zero, List.getD_cons_succ, List.zip_cons_cons, List.zip_nil_right, List.zip_nil_left, List.all_cons, List.all_nil, Bool.and_true, Bool.and_eq_true]
    exact ⟨vld_int.2 h0, vld_int.2 h1⟩
theorem okL_14 {xs : List Int} : okL 14 xs ↔ ∃ a b, xs = [a, b] ∧ el a ∧ el b := by
  constructor
  · rintro ⟨h1, h2⟩
    match xs, h1, h2 with
    | [a, b], _, h2 =>
      refine ⟨a, b, rfl, ?_⟩
      simp only [okA, psN, rowsL, List.getD_cons_zero, List.getD_cons_succ, List.zip_cons_cons, List.zip_nil_right, List.zip_nil_left, List.all_cons, List.all_nil, Bool.and_true, Bool.and_eq_true] at h2
      exact ⟨vld_int.1 h2.1, vld_int.1 h2.2⟩
  · rintro ⟨a, b, rfl, h0, h1⟩
    refine ⟨rfl, ?_⟩
    simp only [okA, psN, rowsL, List.getD_cons_zero, List.getD_cons_succ, List.zip_cons_cons, List.zip_nil_right, List.zip_nil_left, List.all_cons, List.all_nil, Bool.and_true, Bool.and_eq_true]
    exact ⟨vld_int.2 h0, vld_int.2 h1⟩
theorem okL_15 {xs : List Int} : okL 15 xs ↔ ∃ a b, xs = [a, b] ∧ el a ∧ el b := by
  constructor
  · rintro ⟨h1, h2⟩
    match xs, h1, h2 with
    | [a, b], _, h2 =>
      refine ⟨a, b, rfl, ?_⟩
      simp only [okA, psN, rowsL, List.getD_cons_zero, List.getD_cons_succ, List.zip_cons_cons, List.zip_nil_right, List.zip_nil_left, List.all_cons, List.all_nil, Bool.and_true, Bool.and_eq_true] at h2
      exact ⟨vld_int.1 h2.1, vld_int.1 h2.2⟩
  · rintro ⟨a, b, rfl, h0, h1⟩
    refine ⟨rfl, ?_⟩
    simp only [okA, psN, rowsL, List.getD_cons_zero, List.getD_cons_succ, List.zip_cons_cons, List.zip_nil_right, List.zip_nil_left, List.all_cons, List.all_nil, Bool.and_true, Bool.and_eq_true]
    exact ⟨vld_int.2 h0, vld_int.2 h1⟩
theorem okL_16 {xs : List Int} : okL 16 xs ↔ ∃ a b, xs = [a, b] ∧ (a = 0 ∨ a = 1) ∧ (b = 0 ∨ b = 1) := by
  constructor
  · rintro ⟨h1, h2⟩
    match xs, h1, h2 with
    | [a, b], _, h2 =>
      refine ⟨a, b, rfl, ?_⟩
      simp only [okA, psN, rowsL, List.getD_cons_zero, List.getD_cons_succ, List.zip_cons_cons, List.zip_nil_right, List.zip_nil_left, List.all_cons, List.all_nil, Bool.and_true, Bool.and_eq_true] at h2
      exact ⟨vld_bool.1 h2.1, vld_bool.1 h2.2⟩
  · rintro ⟨a, b, rfl, h0, h1⟩
    refine ⟨rfl, ?_⟩
    simp only [okA, psN, rowsL, List.getD_cons_zero, List.getD_cons_succ, List.zip_cons_cons, List.zip_nil_right, List.zip_nil_left, List.all_cons, List.all_nil, Bool.and_true, Bool.and_eq_true]
    exact ⟨vld_bool.2 h0, vld_bool.2 h1⟩
theorem okL_17 {xs : List Int} : okL 17 xs ↔ ∃ a b, xs = [a, b] ∧ (a = 0 ∨ a = 1) ∧ (b = 0 ∨ b = 1) := by
  constructor
  · rintro ⟨h1, h2⟩
    match xs, h1, h2 with
    | [a, b], _, h2 =>
      refine ⟨a, b, rfl, ?_⟩
      simp only [okA, psN, rowsL, List.getD_cons_zero, List.getD_cons_succ, List.zip_cons_cons, List.zip_nil_right, List.zip_nil_left, List.all_cons, List.all_nil, Bool.and_true, Bool.and_eq_true] at h2
      exact ⟨vld_bool.1 h2.1, vld_bool.1 h2.2⟩
  · rintro ⟨a, b, rfl, h0, h1⟩
    refine ⟨rfl, ?_⟩
    simp only [okA, psN, rowsL, List.getD_cons_zero, List.getD_cons_succ, List.zip_cons_cons, List.zip_nil_right, List.zip_nil_left, List.all_cons, List.all_nil, Bool.and_true, Bool.and_eq_true]
    exact ⟨vld_bool.2 h0, vld_bool.2 h1⟩
theorem okL_18 {xs : List Int} : okL 18 xs ↔ ∃ a b, xs = [a, b] ∧ (a = 0 ∨ a = 1) ∧ (b = 0 ∨ b = 1) := by
  constructor
  · rintro ⟨h1, h2⟩
    match xs, h1, h2 with
    | [a, b], _, h2 =>
      refine ⟨a, b, rfl, ?_⟩
      simp only [okA, psN, rowsL, List.getD_cons_zero, List.getD_cons_succ, List.zip_cons_cons, List.zip_nil_right, List.zip_nil_left, List.all_cons, List.all_nil, Bool.and_true, Bool.and_eq_true] at h2
      exact ⟨vld_bool.1 h2.1, vld_bool.1 h2.2⟩
  · rintro ⟨a, b, rfl, h0, h1⟩
    refine ⟨rfl, ?_⟩
    simp only [okA, psN, rowsL, List.getD_cons_zero, List.getD_cons_succ, List.zip_cons_cons, List.zip_nil_right, List.zip_nil_left, List.all_cons, List.all_nil, Bool.and_true, Bool.and_eq_true]
    exact ⟨vld_bool.2 h0, vld_bool.2 h1⟩
theorem okL_19 {xs : List Int} : okL 19 xs ↔ ∃ a, xs = [a] ∧ (a = 0 ∨ a = 1) := by
  constructor
  · rintro ⟨h1, h2⟩
    match xs, h1, h2 with
    | [a], _, h2 =>
      refine ⟨a, rfl, ?_⟩
      simp only [okA, psN, rowsL, List.getD_cons_zero, List.getD_cons_succ, List.zip_cons_cons, List.zip_nil_right, List.zip_nil_left, List.all_cons, List.all_nil, Bool.and_true, Bool.and_eq_true] at h2
      exact vld_bool.1 h2
  · rintro ⟨a, rfl, h0⟩
    refine ⟨rfl, ?_⟩
    simp only [okA, psN, rowsL, List.getD_cons_zero, List.getD_cons_succ, List.zip_cons_cons, List.zip_nil_right, List.zip_nil_left, List.all_cons, List.all_nil, Bool.and_true, Bool.and_eq_true]
    exact vld_bool.2 h0
theorem okL_20 {xs : List Int} : okL 20 xs ↔ ∃ a b c, xs = [a, b, c] ∧ (a = 0 ∨ a = 1) ∧ el b ∧ el c := by
  constructor
  · rintro ⟨h1, h2⟩
    match xs, h1, h2 with
    | [a, b, c], _, h2 =>
      refine ⟨a, b, c, rfl, ?_⟩
      simp only [okA, psN, rowsL, List.getD_cons_zero, List.getD_cons_succ, List.zip_cons_cons, List.zip_nil_right, List.zip_nil_left, List.all_cons, List.all_nil, Bool.and_true, Bool.and_eq_true] at h2
      exact ⟨vld_bool.1 h2.1, vld_int.1 h2.2.1, vld_int.1 h2.2.2⟩
  · rintro ⟨a, b, c, rfl, h0, h1, h2⟩
    refine ⟨rfl, ?_⟩
    simp only [okA, psN, rowsL, List.getD_cons_zero, List.getD_cons_succ, List.zip_cons_cons, List.zip_nil_right, List.zip_nil_left, List.all_cons, List.all_nil, Bool.and_true, Bool.and_eq_true]
    exact ⟨vld_bool.2 h0, vld_int.2 h1, vld_int.2 h2⟩
theorem okL_21 {xs : List Int} : okL 21 xs ↔ ∃ a, xs = [a] ∧ (a = 0 ∨ a = 1) := by
  constructor
  · rintro ⟨h1, h2⟩
    match xs, h1, h2 with
    | [a], _, h2 =>
      refine ⟨a, rfl, ?_⟩
      simp only [okA, psN, rowsL, List.getD_cons_zero, List.getD_cons_succ, List.zip_cons_cons, List.zip_nil_right, List.zip_nil_left, List.all_cons, List.all_nil, Bool.and_true, Bool.and_eq_true] at h2
      exact vld_bool.1 h2
  · rintro ⟨a, rfl, h0⟩
    refine ⟨rfl, ?_⟩
    simp only [okA, psN, rowsL, List.getD_cons_zero, List.getD_cons_succ, List.zip_cons_cons, List.zip_nil_right, List.zip_nil_left, List.all_cons, List.all_nil, Bool.and_true, Bool.and_eq_true]
    exact vld_bool.2 h0
noncomputable def E4 : Env := envOf (P := Try.prog) zer (fun _ => false) (fun _ => false) [con38] []
theorem E4_ok : EnvOk Try.prog E4 := envOk zer_ok
theorem compare_10 {a b : Int} : PC Try.prog 34 [.lit (.string (⟨#[108, 116]⟩ : ByteArray)), .lit (.int .i64 a), .lit (.int .i64 b)] (.lit (.int .i64 (tru (decide (a < b))))) := by
  refine pc_of E4_ok mixed (fun _ => [0, 1, 2, 6, 7, 8, 14, 20, 26, 32]) Try.func34 rfl (by kernel_rfl) (Nat.le_of_ble_eq_true rfl) ?_
  simp only [initF_cons, initF_nil, Nat.reduceAdd]
  refine t_name fun KF => ?_
  unfold E4
  repeat' (first
    | with_reducible refine t_seq fun K => ?_
    | with_reducible refine t_block ?_
    | with_reducible refine t_scope ?_
    | with_reducible refine t_label ?_
    | with_reducible refine t_skip ?_
    | with_reducible refine t_exit ?_
    | with_reducible refine t_ret ?_
    | with_reducible refine t_k ?_
    | (with_reducible refine t_gF ?_)
    | ((first | with_reducible refine t_kE ?_ | with_reducible refine t_kD ?_ | with_reducible refine t_gS ?_ | with_reducible refine t_kL ?_ | (with_reducible refine t_kLE ?_ ?_; rotate_left) | with_reducible refine t_region fun K => ?_ | with_reducible refine t_draw (by kernel_rfl) fun K => ?_); simp only [go_sem, Int.cast_ofNat_Int, Nat.reduceEqDiff, reduceIte, Nat.reduceAdd, Nat.reduceMul, Nat.reduceLeDiff, Nat.reduceSub, Nat.reduceLT, Nat.zero_lt_succ, Int.reduceToNat, Int.reduceAdd, Int.reduceSub, Int.reduceMul, Int.reduceNeg, Int.reduceLT, Int.reduceLE, Int.reduceEq, Int.reduceBEq, Int.reduceBNe, Nat.reduceBEq, List.reduceReplicate, con38_f, con38_c])
    | (with_reducible exact kp_nil)
    | (with_reducible exact Kp.refl _)
    | (with_reducible exact kp_to)
    | (with_reducible refine kp_cons ?_)
    | (with_reducible refine kp_arr ?_)
    | (with_reducible refine kp_app ?_)
    | ((with_reducible refine t_cond fun A B => ?_); simp only [go_sem, Int.cast_ofNat_Int, Nat.reduceEqDiff, reduceIte, Nat.reduceAdd, Nat.reduceMul, Nat.reduceLeDiff, Nat.reduceSub, Nat.reduceLT, Nat.zero_lt_succ, Int.reduceToNat, Int.reduceAdd, Int.reduceSub, Int.reduceMul, Int.reduceNeg, Int.reduceLT, Int.reduceLE, Int.reduceEq, Int.reduceBEq, Int.reduceBNe, Nat.reduceBEq, List.reduceReplicate, con38_f, con38_c]; first | (with_reducible refine A.h ?_) | (with_reducible refine B.h ?_) | refine And.intro (fun hc => A.h ?_) (fun hc => B.h ?_))
    | simp only [thenQ_n, thenQ_r, thenQ_e, blockQ_n, blockQ_r, blockQ_e, scopeQ_n, scopeQ_r, scopeQ_e, Nat.reduceEqDiff, reduceIte]
    | (with_reducible refine And.intro ?_ ?_)
    | with_reducible intro vr)
  refine end_ret rfl ?_
  simp only [fin, go_sem, Int.cast_ofNat_Int, Nat.reduceEqDiff, reduceIte, Nat.reduceAdd, Nat.reduceMul, Nat.reduceLeDiff, Nat.reduceSub, Nat.reduceLT, Nat.zero_lt_succ, Int.reduceToNat, Int.reduceAdd, Int.reduceSub, Int.reduceMul, Int.reduceNeg, Int.reduceLT, Int.reduceLE, Int.reduceEq, Int.reduceBEq, Int.reduceBNe, Nat.reduceBEq, List.reduceReplicate]
  exact LeA.refl _
theorem compare_11 {a b : Int} : PC Try.prog 34 [.lit (.string (⟨#[108, 101]⟩ : ByteArray)), .lit (.int .i64 a), .lit (.int .i64 b)] (.lit (.int .i64 (tru (decide (a ≤ b))))) := by
  refine pc_of E4_ok mixed (fun _ => [0, 1, 2, 6, 7, 8, 14, 20, 26, 32]) Try.func34 rfl (by kernel_rfl) (Nat.le_of_ble_eq_true rfl) ?_
  simp only [initF_cons, initF_nil, Nat.reduceAdd]
  refine t_name fun KF => ?_
  unfold E4
  repeat' (first
    | with_reducible refine t_seq fun K => ?_
    | with_reducible refine t_block ?_
    | with_reducible refine t_scope ?_
    | with_reducible refine t_label ?_
    | with_reducible refine t_skip ?_
    | with_reducible refine t_exit ?_
    | with_reducible refine t_ret ?_
    | with_reducible refine t_k ?_
    | (with_reducible refine t_gF ?_)
    | ((first | with_reducible refine t_kE ?_ | with_reducible refine t_kD ?_ | with_reducible refine t_gS ?_ | with_reducible refine t_kL ?_ | (with_reducible refine t_kLE ?_ ?_; rotate_left) | with_reducible refine t_region fun K => ?_ | with_reducible refine t_draw (by kernel_rfl) fun K => ?_); simp only [go_sem, Int.cast_ofNat_Int, Nat.reduceEqDiff, reduceIte, Nat.reduceAdd, Nat.reduceMul, Nat.reduceLeDiff, Nat.reduceSub, Nat.reduceLT, Nat.zero_lt_succ, Int.reduceToNat, Int.reduceAdd, Int.reduceSub, Int.reduceMul, Int.reduceNeg, Int.reduceLT, Int.reduceLE, Int.reduceEq, Int.reduceBEq, Int.reduceBNe, Nat.reduceBEq, List.reduceReplicate, con38_f, con38_c])
    | (with_reducible exact kp_nil)
    | (with_reducible exact Kp.refl _)
    | (with_reducible exact kp_to)
    | (with_reducible refine kp_cons ?_)
    | (with_reducible refine kp_arr ?_)
    | (with_reducible refine kp_app ?_)
    | ((with_reducible refine t_cond fun A B => ?_); simp only [go_sem, Int.cast_ofNat_Int, Nat.reduceEqDiff, reduceIte, Nat.reduceAdd, Nat.reduceMul, Nat.reduceLeDiff, Nat.reduceSub, Nat.reduceLT, Nat.zero_lt_succ, Int.reduceToNat, Int.reduceAdd, Int.reduceSub, Int.reduceMul, Int.reduceNeg, Int.reduceLT, Int.reduceLE, Int.reduceEq, Int.reduceBEq, Int.reduceBNe, Nat.reduceBEq, List.reduceReplicate, con38_f, con38_c]; first | (with_reducible refine A.h ?_) | (with_reducible refine B.h ?_) | refine And.intro (fun hc => A.h ?_) (fun hc => B.h ?_))
    | simp only [thenQ_n, thenQ_r, thenQ_e, blockQ_n, blockQ_r, blockQ_e, scopeQ_n, scopeQ_r, scopeQ_e, Nat.reduceEqDiff, reduceIte]
    | (with_reducible refine And.intro ?_ ?_)
    | with_reducible intro vr)
  refine end_ret rfl ?_
  simp only [fin, go_sem, Int.cast_ofNat_Int, Nat.reduceEqDiff, reduceIte, Nat.reduceAdd, Nat.reduceMul, Nat.reduceLeDiff, Nat.reduceSub, Nat.reduceLT, Nat.zero_lt_succ, Int.reduceToNat, Int.reduceAdd, Int.reduceSub, Int.reduceMul, Int.reduceNeg, Int.reduceLT, Int.reduceLE, Int.reduceEq, Int.reduceBEq, Int.reduceBNe, Nat.reduceBEq, List.reduceReplicate]
  exact LeA.refl _
theorem compare_12 {a b : Int} : PC Try.prog 34 [.lit (.string (⟨#[103, 116]⟩ : ByteArray)), .lit (.int .i64 a), .lit (.int .i64 b)] (.lit (.int .i64 (tru (decide (a > b))))) := by
  refine pc_of E4_ok mixed (fun _ => [0, 1, 2, 6, 7, 8, 14, 20, 26, 32]) Try.func34 rfl (by kernel_rfl) (Nat.le_of_ble_eq_true rfl) ?_
  simp only [initF_cons, initF_nil, Nat.reduceAdd]
  refine t_name fun KF => ?_
  unfold E4
  repeat' (first
    | with_reducible refine t_seq fun K => ?_
    | with_reducible refine t_block ?_
    | with_reducible refine t_scope ?_
    | with_reducible refine t_label ?_
    | with_reducible refine t_skip ?_
    | with_reducible refine t_exit ?_
    | with_reducible refine t_ret ?_
    | with_reducible refine t_k ?_
    | (with_reducible refine t_gF ?_)
    | ((first | with_reducible refine t_kE ?_ | with_reducible refine t_kD ?_ | with_reducible refine t_gS ?_ | with_reducible refine t_kL ?_ | (with_reducible refine t_kLE ?_ ?_; rotate_left) | with_reducible refine t_region fun K => ?_ | with_reducible refine t_draw (by kernel_rfl) fun K => ?_); simp only [go_sem, Int.cast_ofNat_Int, Nat.reduceEqDiff, reduceIte, Nat.reduceAdd, Nat.reduceMul, Nat.reduceLeDiff, Nat.reduceSub, Nat.reduceLT, Nat.zero_lt_succ, Int.reduceToNat, Int.reduceAdd, Int.reduceSub, Int.reduceMul, Int.reduceNeg, Int.reduceLT, Int.reduceLE, Int.reduceEq, Int.reduceBEq, Int.reduceBNe, Nat.reduceBEq, List.reduceReplicate, con38_f, con38_c])
    | (with_reducible exact kp_nil)
    | (with_reducible exact Kp.refl _)
    | (with_reducible exact kp_to)
    | (with_reducible refine kp_cons ?_)
    | (with_reducible refine kp_arr ?_)
    | (with_reducible refine kp_app ?_)
    | ((with_reducible refine t_cond fun A B => ?_); simp only [go_sem, Int.cast_ofNat_Int, Nat.reduceEqDiff, reduceIte, Nat.reduceAdd, Nat.reduceMul, Nat.reduceLeDiff, Nat.reduceSub, Nat.reduceLT, Nat.zero_lt_succ, Int.reduceToNat, Int.reduceAdd, Int.reduceSub, Int.reduceMul, Int.reduceNeg, Int.reduceLT, Int.reduceLE, Int.reduceEq, Int.reduceBEq, Int.reduceBNe, Nat.reduceBEq, List.reduceReplicate, con38_f, con38_c]; first | (with_reducible refine A.h ?_) | (with_reducible refine B.h ?_) | refine And.intro (fun hc => A.h ?_) (fun hc => B.h ?_))
    | simp only [thenQ_n, thenQ_r, thenQ_e, blockQ_n, blockQ_r, blockQ_e, scopeQ_n, scopeQ_r, scopeQ_e, Nat.reduceEqDiff, reduceIte]
    | (with_reducible refine And.intro ?_ ?_)
    | with_reducible intro vr)
  refine end_ret rfl ?_
  simp only [fin, go_sem, Int.cast_ofNat_Int, Nat.reduceEqDiff, reduceIte, Nat.reduceAdd, Nat.reduceMul, Nat.reduceLeDiff, Nat.reduceSub, Nat.reduceLT, Nat.zero_lt_succ, Int.reduceToNat, Int.reduceAdd, Int.reduceSub, Int.reduceMul, Int.reduceNeg, Int.reduceLT, Int.reduceLE, Int.reduceEq, Int.reduceBEq, Int.reduceBNe, Nat.reduceBEq, List.reduceReplicate]
  exact LeA.refl _
theorem compare_13 {a b : Int} : PC Try.prog 34 [.lit (.string (⟨#[103, 101]⟩ : ByteArray)), .lit (.int .i64 a), .lit (.int .i64 b)] (.lit (.int .i64 (tru (decide (a ≥ b))))) := by
  refine pc_of E4_ok mixed (fun _ => [0, 1, 2, 6, 7, 8, 14, 20, 26, 32]) Try.func34 rfl (by kernel_rfl) (Nat.le_of_ble_eq_true rfl) ?_
  simp only [initF_cons, initF_nil, Nat.reduceAdd]
  refine t_name fun KF => ?_
  unfold E4
  repeat' (first
    | with_reducible refine t_seq fun K => ?_
    | with_reducible refine t_block ?_
    | with_reducible refine t_scope ?_
    | with_reducible refine t_label ?_
    | with_reducible refine t_skip ?_
    | with_reducible refine t_exit ?_
    | with_reducible refine t_ret ?_
    | with_reducible refine t_k ?_
    | (with_reducible refine t_gF ?_)
    | ((first | with_reducible refine t_kE ?_ | with_reducible refine t_kD ?_ | with_reducible refine t_gS ?_ | with_reducible refine t_kL ?_ | (with_reducible refine t_kLE ?_ ?_; rotate_left) | with_reducible refine t_region fun K => ?_ | with_reducible refine t_draw (by kernel_rfl) fun K => ?_); simp only [go_sem, Int.cast_ofNat_Int, Nat.reduceEqDiff, reduceIte, Nat.reduceAdd, Nat.reduceMul, Nat.reduceLeDiff, Nat.reduceSub, Nat.reduceLT, Nat.zero_lt_succ, Int.reduceToNat, Int.reduceAdd, Int.reduceSub, Int.reduceMul, Int.reduceNeg, Int.reduceLT, Int.reduceLE, Int.reduceEq, Int.reduceBEq, Int.reduceBNe, Nat.reduceBEq, List.reduceReplicate, con38_f, con38_c])
    | (with_reducible exact kp_nil)
    | (with_reducible exact Kp.refl _)
    | (with_reducible exact kp_to)
    | (with_reducible refine kp_cons ?_)
    | (with_reducible refine kp_arr ?_)
    | (with_reducible refine kp_app ?_)
    | ((with_reducible refine t_cond fun A B => ?_); simp only [go_sem, Int.cast_ofNat_Int, Nat.reduceEqDiff, reduceIte, Nat.reduceAdd, Nat.reduceMul, Nat.reduceLeDiff, Nat.reduceSub, Nat.reduceLT, Nat.zero_lt_succ, Int.reduceToNat, Int.reduceAdd, Int.reduceSub, Int.reduceMul, Int.reduceNeg, Int.reduceLT, Int.reduceLE, Int.reduceEq, Int.reduceBEq, Int.reduceBNe, Nat.reduceBEq, List.reduceReplicate, con38_f, con38_c]; first | (with_reducible refine A.h ?_) | (with_reducible refine B.h ?_) | refine And.intro (fun hc => A.h ?_) (fun hc => B.h ?_))
    | simp only [thenQ_n, thenQ_r, thenQ_e, blockQ_n, blockQ_r, blockQ_e, scopeQ_n, scopeQ_r, scopeQ_e, Nat.reduceEqDiff, reduceIte]
    | (with_reducible refine And.intro ?_ ?_)
    | with_reducible intro vr)
  refine end_ret rfl ?_
  simp only [fin, go_sem, Int.cast_ofNat_Int, Nat.reduceEqDiff, reduceIte, Nat.reduceAdd, Nat.reduceMul, Nat.reduceLeDiff, Nat.reduceSub, Nat.reduceLT, Nat.zero_lt_succ, Int.reduceToNat, Int.reduceAdd, Int.reduceSub, Int.reduceMul, Int.reduceNeg, Int.reduceLT, Int.reduceLE, Int.reduceEq, Int.reduceBEq, Int.reduceBNe, Nat.reduceBEq, List.reduceReplicate]
  exact LeA.refl _
theorem compare_14 {a b : Int} : PC Try.prog 34 [.lit (.string (⟨#[101, 113]⟩ : ByteArray)), .lit (.int .i64 a), .lit (.int .i64 b)] (.lit (.int .i64 (tru (a == b)))) := by
  refine pc_of E4_ok mixed (fun _ => [0, 1, 2, 6, 7, 8, 14, 20, 26, 32]) Try.func34 rfl (by kernel_rfl) (Nat.le_of_ble_eq_true rfl) ?_
  simp only [initF_cons, initF_nil, Nat.reduceAdd]
  refine t_name fun KF => ?_
  unfold E4
  repeat' (first
    | with_reducible refine t_seq fun K => ?_
    | with_reducible refine t_block ?_
    | with_reducible refine t_scope ?_
    | with_reducible refine t_label ?_
    | with_reducible refine t_skip ?_
    | with_reducible refine t_exit ?_
    | with_reducible refine t_ret ?_
    | with_reducible refine t_k ?_
    | (with_reducible refine t_gF ?_)
    | ((first | with_reducible refine t_kE ?_ | with_reducible refine t_kD ?_ | with_reducible refine t_gS ?_ | with_reducible refine t_kL ?_ | (with_reducible refine t_kLE ?_ ?_; rotate_left) | with_reducible refine t_region fun K => ?_ | with_reducible refine t_draw (by kernel_rfl) fun K => ?_); simp only [go_sem, Int.cast_ofNat_Int, Nat.reduceEqDiff, reduceIte, Nat.reduceAdd, Nat.reduceMul, Nat.reduceLeDiff, Nat.reduceSub, Nat.reduceLT, Nat.zero_lt_succ, Int.reduceToNat, Int.reduceAdd, Int.reduceSub, Int.reduceMul, Int.reduceNeg, Int.reduceLT, Int.reduceLE, Int.reduceEq, Int.reduceBEq, Int.reduceBNe, Nat.reduceBEq, List.reduceReplicate, con38_f, con38_c])
    | (with_reducible exact kp_nil)
    | (with_reducible exact Kp.refl _)
    | (with_reducible exact kp_to)
    | (with_reducible refine kp_cons ?_)
    | (with_reducible refine kp_arr ?_)
    | (with_reducible refine kp_app ?_)
    | ((with_reducible refine t_cond fun A B => ?_); simp only [go_sem, Int.cast_ofNat_Int, Nat.reduceEqDiff, reduceIte, Nat.reduceAdd, Nat.reduceMul, Nat.reduceLeDiff, Nat.reduceSub, Nat.reduceLT, Nat.zero_lt_succ, Int.reduceToNat, Int.reduceAdd, Int.reduceSub, Int.reduceMul, Int.reduceNeg, Int.reduceLT, Int.reduceLE, Int.reduceEq, Int.reduceBEq, Int.reduceBNe, Nat.reduceBEq, List.reduceReplicate, con38_f, con38_c]; first | (with_reducible refine A.h ?_) | (with_reducible refine B.h ?_) | refine And.intro (fun hc => A.h ?_) (fun hc => B.h ?_))
    | simp only [thenQ_n, thenQ_r, thenQ_e, blockQ_n, blockQ_r, blockQ_e, scopeQ_n, scopeQ_r, scopeQ_e, Nat.reduceEqDiff, reduceIte]
    | (with_reducible refine And.intro ?_ ?_)
    | with_reducible intro vr)
  refine end_ret rfl ?_
  simp only [fin, go_sem, Int.cast_ofNat_Int, Nat.reduceEqDiff, reduceIte, Nat.reduceAdd, Nat.reduceMul, Nat.reduceLeDiff, Nat.reduceSub, Nat.reduceLT, Nat.zero_lt_succ, Int.reduceToNat, Int.reduceAdd, Int.reduceSub, Int.reduceMul, Int.reduceNeg, Int.reduceLT, Int.reduceLE, Int.reduceEq, Int.reduceBEq, Int.reduceBNe, Nat.reduceBEq, List.reduceReplicate]
  exact LeA.refl _
theorem compare_15 {a b : Int} : PC Try.prog 34 [.lit (.string (⟨#[110, 101]⟩ : ByteArray)), .lit (.int .i64 a), .lit (.int .i64 b)] (.lit (.int .i64 (tru (a != b)))) := by
  refine pc_of E4_ok mixed (fun _ => [0, 1, 2, 6, 7, 8, 14, 20, 26, 32]) Try.func34 rfl (by kernel_rfl) (Nat.le_of_ble_eq_true rfl) ?_
  simp only [initF_cons, initF_nil, Nat.reduceAdd]
  refine t_name fun KF => ?_
  unfold E4
  repeat' (first
    | with_reducible refine t_seq fun K => ?_
    | with_reducible refine t_block ?_
    | with_reducible refine t_scope ?_
    | with_reducible refine t_label ?_
    | with_reducible refine t_skip ?_
    | with_reducible refine t_exit ?_
    | with_reducible refine t_ret ?_
    | with_reducible refine t_k ?_
    | (with_reducible refine t_gF ?_)
    | ((first | with_reducible refine t_kE ?_ | with_reducible refine t_kD ?_ | with_reducible refine t_gS ?_ | with_reducible refine t_kL ?_ | (with_reducible refine t_kLE ?_ ?_; rotate_left) | with_reducible refine t_region fun K => ?_ | with_reducible refine t_draw (by kernel_rfl) fun K => ?_); simp only [go_sem, Int.cast_ofNat_Int, Nat.reduceEqDiff, reduceIte, Nat.reduceAdd, Nat.reduceMul, Nat.reduceLeDiff, Nat.reduceSub, Nat.reduceLT, Nat.zero_lt_succ, Int.reduceToNat, Int.reduceAdd, Int.reduceSub, Int.reduceMul, Int.reduceNeg, Int.reduceLT, Int.reduceLE, Int.reduceEq, Int.reduceBEq, Int.reduceBNe, Nat.reduceBEq, List.reduceReplicate, con38_f, con38_c])
    | (with_reducible exact kp_nil)
    | (with_reducible exact Kp.refl _)
    | (with_reducible exact kp_to)
    | (with_reducible refine kp_cons ?_)
    | (with_reducible refine kp_arr ?_)
    | (with_reducible refine kp_app ?_)
    | ((with_reducible refine t_cond fun A B => ?_); simp only [go_sem, Int.cast_ofNat_Int, Nat.reduceEqDiff, reduceIte, Nat.reduceAdd, Nat.reduceMul, Nat.reduceLeDiff, Nat.reduceSub, Nat.reduceLT, Nat.zero_lt_succ, Int.reduceToNat, Int.reduceAdd, Int.reduceSub, Int.reduceMul, Int.reduceNeg, Int.reduceLT, Int.reduceLE, Int.reduceEq, Int.reduceBEq, Int.reduceBNe, Nat.reduceBEq, List.reduceReplicate, con38_f, con38_c]; first | (with_reducible refine A.h ?_) | (with_reducible refine B.h ?_) | refine And.intro (fun hc => A.h ?_) (fun hc => B.h ?_))
    | simp only [thenQ_n, thenQ_r, thenQ_e, blockQ_n, blockQ_r, blockQ_e, scopeQ_n, scopeQ_r, scopeQ_e, Nat.reduceEqDiff, reduceIte]
    | (with_reducible refine And.intro ?_ ?_)
    | with_reducible intro vr)
  refine end_ret rfl ?_
  simp only [fin, go_sem, Int.cast_ofNat_Int, Nat.reduceEqDiff, reduceIte, Nat.reduceAdd, Nat.reduceMul, Nat.reduceLeDiff, Nat.reduceSub, Nat.reduceLT, Nat.zero_lt_succ, Int.reduceToNat, Int.reduceAdd, Int.reduceSub, Int.reduceMul, Int.reduceNeg, Int.reduceLT, Int.reduceLE, Int.reduceEq, Int.reduceBEq, Int.reduceBNe, Nat.reduceBEq, List.reduceReplicate]
  exact LeA.refl _
noncomputable def con34 : PCon Try.prog where
  f := 34
  c := fun
    | [.lit (.string op), .lit (.int .i64 a), .lit (.int .i64 b)] => match rowIx op with
      | some 10 => some (True, .lit (.int .i64 (tru (decide (a < b)))))
      | some 11 => some (True, .lit (.int .i64 (tru (decide (a ≤ b)))))
      | some 12 => some (True, .lit (.int .i64 (tru (decide (a > b)))))
      | some 13 => some (True, .lit (.int .i64 (tru (decide (a ≥ b)))))
      | some 14 => some (True, .lit (.int .i64 (tru (a == b))))
      | some 15 => some (True, .lit (.int .i64 (tru (a != b))))
      | _ => none
    | _ => none
  ok := by
    intro args p r hc hp
    split at hc
    · rename_i op a b
      rcases ix_cases op with ⟨i, hi, he, hx, _⟩ | ⟨hx, _⟩
      · rw [hx] at hc
        split at hc
        · rename_i e; cases e; cases hc; subst he; exact compare_10
        · rename_i e; cases e; cases hc; subst he; exact compare_11
        · rename_i e; cases e; cases hc; subst he; exact compare_12
        · rename_i e; cases e; cases hc; subst he; exact compare_13
        · rename_i e; cases e; cases hc; subst he; exact compare_14
        · rename_i e; cases e; cases hc; subst he; exact compare_15
        · cases hc
      · rw [hx] at hc; cases hc
    · cases hc
  fk := fk34
theorem con34_f : con34.f = 34 := rfl
theorem con34_10 {a b : Int} : con34.c [.lit (.string (⟨#[108, 116]⟩ : ByteArray)), .lit (.int .i64 a), .lit (.int .i64 b)] = some (True, .lit (.int .i64 (tru (decide (a < b))))) := rfl
theorem con34_11 {a b : Int} : con34.c [.lit (.string (⟨#[108, 101]⟩ : ByteArray)), .lit (.int .i64 a), .lit (.int .i64 b)] = some (True, .lit (.int .i64 (tru (decide (a ≤ b))))) := rfl
theorem con34_12 {a b : Int} : con34.c [.lit (.string (⟨#[103, 116]⟩ : ByteArray)), .lit (.int .i64 a), .lit (.int .i64 b)] = some (True, .lit (.int .i64 (tru (decide (a > b))))) := rfl
theorem con34_13 {a b : Int} : con34.c [.lit (.string (⟨#[103, 101]⟩ : ByteArray)), .lit (.int .i64 a), .lit (.int .i64 b)] = some (True, .lit (.int .i64 (tru (decide (a ≥ b))))) := rfl
theorem con34_14 {a b : Int} : con34.c [.lit (.string (⟨#[101, 113]⟩ : ByteArray)), .lit (.int .i64 a), .lit (.int .i64 b)] = some (True, .lit (.int .i64 (tru (a == b)))) := rfl
theorem con34_15 {a b : Int} : con34.c [.lit (.string (⟨#[110, 101]⟩ : ByteArray)), .lit (.int .i64 a), .lit (.int .i64 b)] = some (True, .lit (.int .i64 (tru (a != b)))) := rfl
theorem flo_bd {a b : Int} (ha : el a) : -2147483649 ≤ flo a b ∧ flo a b ≤ 2147483648 := by
  unfold flo
  split
  · omega
  · rename_i hb
    have := tdiv_bd ha hb
    split <;> omega
theorem mul_bd {a b : Int} (ha : el a) (hb : el b) : -4611686018427387904 ≤ a * b ∧ a * b ≤ 4611686018427387904 := by
  unfold el at *
  have h : (a * b).natAbs ≤ 2147483648 * 2147483648 := by
    rw [Int.natAbs_mul]
    exact Nat.mul_le_mul (by omega) (by omega)
  omega
theorem bflo_bd {a b : Int} (ha : el a) (hb : el b) (h : b ≠ 0) : -4294967296 ≤ b * flo a b ∧ b * flo a b ≤ 4294967296 := by
  have := flo_spec (a := a) h
  unfold el at *
  omega
theorem max_el {a b : Int} (ha : el a) : a ≤ maxI a b ∧ maxI a b ≤ max a b := by
  unfold maxI
  split <;> omega
end Go.Proofs.Ytbmogpafhdbfdaa

/- value. -/
namespace Go.Proofs.Ytbmogpafhdbfdaa
open Go Go.Fw

noncomputable def E5 : Env := envOf (P := Try.prog) zer (fun _ => false) (fun _ => false) [con16, con32, con33, con34] []
theorem E5_ok : EnvOk Try.prog E5 := envOk zer_ok
set_option maxHeartbeats 1000000 in
theorem v26_0 {a b : Int} (h0 : el a) (h1 : el b) : PC Try.prog 26 [.lit (.string (⟨#[97, 100, 100]⟩ : ByteArray)), .sl false 1 [.lit (.int .i64 a), .lit (.int .i64 b)]] (.lit (.int .i64 (vS 0 [a, b]))) := by
  unfold el at h0 h1
  refine pc_of E5_ok mixed (fun _ => [0, 1, 4, 5, 6, 16, 26, 36, 46, 51, 67, 77, 87, 94, 105, 111, 120, 126, 135]) Try.func26 rfl (by kernel_rfl) (Nat.le_of_ble_eq_true rfl) ?_
  simp only [initF_cons, initF_nil, Nat.reduceAdd]
  refine t_name fun KF => ?_
  unfold E5
  repeat' (first
    | with_reducible refine t_seq fun K => ?_
    | with_reducible refine t_block ?_
    | with_reducible refine t_scope ?_
    | with_reducible refine t_label ?_
    | with_reducible refine t_skip ?_
    | with_reducible refine t_exit ?_
    | with_reducible refine t_ret ?_
    | with_reducible refine t_k ?_
    | (with_reducible refine t_gF ?_)
    | ((first | with_reducible refine t_kE ?_ | with_reducible refine t_kD ?_ | with_reducible refine t_gS ?_ | with_reducible refine t_kL ?_ | (with_reducible refine t_kLE ?_ ?_; rotate_left) | with_reducible refine t_region fun K => ?_ | with_reducible refine t_draw (by kernel_rfl) fun K => ?_); simp only [go_sem, Int.cast_ofNat_Int, Nat.reduceEqDiff, reduceIte, Nat.reduceAdd, Nat.reduceMul, Nat.reduceLeDiff, Nat.reduceSub, Nat.reduceLT, Nat.zero_lt_succ, Int.reduceToNat, Int.reduceAdd, Int.reduceSub, Int.reduceMul, Int.reduceNeg, Int.reduceLT, Int.reduceLE, Int.reduceEq, Int.reduceBEq, Int.reduceBNe, Nat.reduceBEq, List.reduceReplicate, con16_f, con32_f, con33_f, con34_f, con16_c, con32_c, con33_c, con34_10, con34_11, con34_12, con34_13, con34_14, con34_15])
    | (with_reducible exact kp_nil)
    | (with_reducible exact Kp.refl _)
    | (with_reducible exact kp_to)
    | (with_reducible refine kp_cons ?_)
    | (with_reducible refine kp_arr ?_)
    | (with_reducible refine kp_app ?_)
    | ((with_reducible refine t_cond fun A B => ?_); simp only [go_sem, Int.cast_ofNat_Int, Nat.reduceEqDiff, reduceIte, Nat.reduceAdd, Nat.reduceMul, Nat.reduceLeDiff, Nat.reduceSub, Nat.reduceLT, Nat.zero_lt_succ, Int.reduceToNat, Int.reduceAdd, Int.reduceSub, Int.reduceMul, Int.reduceNeg, Int.reduceLT, Int.reduceLE, Int.reduceEq, Int.reduceBEq, Int.reduceBNe, Nat.reduceBEq, List.reduceReplicate, con16_f, con32_f, con33_f, con34_f, con16_c, con32_c, con33_c, con34_10, con34_11, con34_12, con34_13, con34_14, con34_15]; first | (with_reducible refine A.h ?_) | (with_reducible refine B.h ?_) | refine And.intro (fun hc => A.h ?_) (fun hc => B.h ?_))
    | simp only [thenQ_n, thenQ_r, thenQ_e, blockQ_n, blockQ_r, blockQ_e, scopeQ_n, scopeQ_r, scopeQ_e, Nat.reduceEqDiff, reduceIte]
    | (with_reducible refine And.intro ?_ ?_)
    | with_reducible intro vr)
  all_goals try (intros; (try simp only [Bool.and_eq_true, Bool.or_eq_true, Bool.not_eq_true', decide_eq_true_eq, decide_eq_false_iff_not, beq_iff_eq, bne_iff_ne, ne_eq, inI64, List.length_append] at *) <;> omega)
  refine end_ret rfl ?_
  simp only [fin, go_sem, Int.cast_ofNat_Int, Nat.reduceEqDiff, reduceIte, Nat.reduceAdd, Nat.reduceMul, Nat.reduceLeDiff, Nat.reduceSub, Nat.reduceLT, Nat.zero_lt_succ, Int.reduceToNat, Int.reduceAdd, Int.reduceSub, Int.reduceMul, Int.reduceNeg, Int.reduceLT, Int.reduceLE, Int.reduceEq, Int.reduceBEq, Int.reduceBNe, Nat.reduceBEq, List.reduceReplicate, vS]
  exact LeA.refl _
set_option maxHeartbeats 1000000 in
theorem v26_1 {a b : Int} (h0 : el a) (h1 : el b) : PC Try.prog 26 [.lit (.string (⟨#[115, 117, 98]⟩ : ByteArray)), .sl false 1 [.lit (.int .i64 a), .lit (.int .i64 b)]] (.lit (.int .i64 (vS 1 [a, b]))) := by
  unfold el at h0 h1
  refine pc_of E5_ok mixed (fun _ => [0, 1, 4, 5, 6, 16, 26, 36, 46, 51, 67, 77, 87, 94, 105, 111, 120, 126, 135]) Try.func26 rfl (by kernel_rfl) (Nat.le_of_ble_eq_true rfl) ?_
  simp only [initF_cons, initF_nil, Nat.reduceAdd]
  refine t_name fun KF => ?_
  unfold E5
  repeat' (first
    | with_reducible refine t_seq fun K => ?_
    | with_reducible refine t_block ?_
    | with_reducible refine t_scope ?_
    | with_reducible refine t_label ?_
    | with_reducible refine t_skip ?_
    | with_reducible refine t_exit ?_
    | with_reducible refine t_ret ?_
    | with_reducible refine t_k ?_
    | (with_reducible refine t_gF ?_)
    | ((first | with_reducible refine t_kE ?_ | with_reducible refine t_kD ?_ | with_reducible refine t_gS ?_ | with_reducible refine t_kL ?_ | (with_reducible refine t_kLE ?_ ?_; rotate_left) | with_reducible refine t_region fun K => ?_ | with_reducible refine t_draw (by kernel_rfl) fun K => ?_); simp only [go_sem, Int.cast_ofNat_Int, Nat.reduceEqDiff, reduceIte, Nat.reduceAdd, Nat.reduceMul, Nat.reduceLeDiff, Nat.reduceSub, Nat.reduceLT, Nat.zero_lt_succ, Int.reduceToNat, Int.reduceAdd, Int.reduceSub, Int.reduceMul, Int.reduceNeg, Int.reduceLT, Int.reduceLE, Int.reduceEq, Int.reduceBEq, Int.reduceBNe, Nat.reduceBEq, List.reduceReplicate, con16_f, con32_f, con33_f, con34_f, con16_c, con32_c, con33_c, con34_10, con34_11, con34_12, con34_13, con34_14, con34_15])
    | (with_reducible exact kp_nil)
    | (with_reducible exact Kp.refl _)
    | (with_reducible exact kp_to)
    | (with_reducible refine kp_cons ?_)
    | (with_reducible refine kp_arr ?_)
    | (with_reducible refine kp_app ?_)
    | ((with_reducible refine t_cond fun A B => ?_); simp only [go_sem, Int.cast_ofNat_Int, Nat.reduceEqDiff, reduceIte, Nat.reduceAdd, Nat.reduceMul, Nat.reduceLeDiff, Nat.reduceSub, Nat.reduceLT, Nat.zero_lt_succ, Int.reduceToNat, Int.reduceAdd, Int.reduceSub, Int.reduceMul, Int.reduceNeg, Int.reduceLT, Int.reduceLE, Int.reduceEq, Int.reduceBEq, Int.reduceBNe, Nat.reduceBEq, List.reduceReplicate, con16_f, con32_f, con33_f, con34_f, con16_c, con32_c, con33_c, con34_10, con34_11, con34_12, con34_13, con34_14, con34_15]; first | (with_reducible refine A.h ?_) | (with_reducible refine B.h ?_) | refine And.intro (fun hc => A.h ?_) (fun hc => B.h ?_))
    | simp only [thenQ_n, thenQ_r, thenQ_e, blockQ_n, blockQ_r, blockQ_e, scopeQ_n, scopeQ_r, scopeQ_e, Nat.reduceEqDiff, reduceIte]
    | (with_reducible refine And.intro ?_ ?_)
    | with_reducible intro vr)
  all_goals try (intros; (try simp only [Bool.and_eq_true, Bool.or_eq_true, Bool.not_eq_true', decide_eq_true_eq, decide_eq_false_iff_not, beq_iff_eq, bne_iff_ne, ne_eq, inI64, List.length_append] at *) <;> omega)
  refine end_ret rfl ?_
  simp only [fin, go_sem, Int.cast_ofNat_Int, Nat.reduceEqDiff, reduceIte, Nat.reduceAdd, Nat.reduceMul, Nat.reduceLeDiff, Nat.reduceSub, Nat.reduceLT, Nat.zero_lt_succ, Int.reduceToNat, Int.reduceAdd, Int.reduceSub, Int.reduceMul, Int.reduceNeg, Int.reduceLT, Int.reduceLE, Int.reduceEq, Int.reduceBEq, Int.reduceBNe, Nat.reduceBEq, List.reduceReplicate, vS]
  exact LeA.refl _
set_option maxHeartbeats 1000000 in
theorem v26_2 {a b : Int} (h0 : el a) (h1 : el b) : PC Try.prog 26 [.lit (.string (⟨#[109, 117, 108]⟩ : ByteArray)), .sl false 1 [.lit (.int .i64 a), .lit (.int .i64 b)]] (.lit (.int .i64 (vS 2 [a, b]))) := by
  have hm := mul_bd h0 h1
  refine pc_of E5_ok mixed (fun _ => [0, 1, 4, 5, 6, 16, 26, 36, 46, 51, 67, 77, 87, 94, 105, 111, 120, 126, 135]) Try.func26 rfl (by kernel_rfl) (Nat.le_of_ble_eq_true rfl) ?_
  simp only [initF_cons, initF_nil, Nat.reduceAdd]
  refine t_name fun KF => ?_
  unfold E5
  repeat' (first
    | with_reducible refine t_seq fun K => ?_
    | with_reducible refine t_block ?_
    | with_reducible refine t_scope ?_
    | with_reducible refine t_label ?_
    | with_reducible refine t_skip ?_
    | with_reducible refine t_exit ?_
    | with_reducible refine t_ret ?_
    | with_reducible refine t_k ?_
    | (with_reducible refine t_gF ?_)
    | ((first | with_reducible refine t_kE ?_ | with_reducible refine t_kD ?_ | with_reducible refine t_gS ?_ | with_reducible refine t_kL ?_ | (with_reducible refine t_kLE ?_ ?_; rotate_left) | with_reducible refine t_region fun K => ?_ | with_reducible refine t_draw (by kernel_rfl) fun K => ?_); simp only [go_sem, Int.cast_ofNat_Int, Nat.reduceEqDiff, reduceIte, Nat.reduceAdd, Nat.reduceMul, Nat.reduceLeDiff, Nat.reduceSub, Nat.reduceLT, Nat.zero_lt_succ, Int.reduceToNat, Int.reduceAdd, Int.reduceSub, Int.reduceMul, Int.reduceNeg, Int.reduceLT, Int.reduceLE, Int.reduceEq, Int.reduceBEq, Int.reduceBNe, Nat.reduceBEq, List.reduceReplicate, con16_f, con32_f, con33_f, con34_f, con16_c, con32_c, con33_c, con34_10, con34_11, con34_12, con34_13, con34_14, con34_15])
    | (with_reducible exact kp_nil)
    | (with_reducible exact Kp.refl _)
    | (with_reducible exact kp_to)
    | (with_reducible refine kp_cons ?_)
    | (with_reducible refine kp_arr ?_)
    | (with_reducible refine kp_app ?_)
    | ((with_reducible refine t_cond fun A B => ?_); simp only [go_sem, Int.cast_ofNat_Int, Nat.reduceEqDiff, reduceIte, Nat.reduceAdd, Nat.reduceMul, Nat.reduceLeDiff, Nat.reduceSub, Nat.reduceLT, Nat.zero_lt_succ, Int.reduceToNat, Int.reduceAdd, Int.reduceSub, Int.reduceMul, Int.reduceNeg, Int.reduceLT, Int.reduceLE, Int.reduceEq, Int.reduceBEq, Int.reduceBNe, Nat.reduceBEq, List.reduceReplicate, con16_f, con32_f, con33_f, con34_f, con16_c, con32_c, con33_c, con34_10, con34_11, con34_12, con34_13, con34_14, con34_15]; first | (with_reducible refine A.h ?_) | (with_reducible refine B.h ?_) | refine And.intro (fun hc => A.h ?_) (fun hc => B.h ?_))
    | simp only [thenQ_n, thenQ_r, thenQ_e, blockQ_n, blockQ_r, blockQ_e, scopeQ_n, scopeQ_r, scopeQ_e, Nat.reduceEqDiff, reduceIte]
    | (with_reducible refine And.intro ?_ ?_)
    | with_reducible intro vr)
  all_goals try (intros; (try simp only [Bool.and_eq_true, Bool.or_eq_true, Bool.not_eq_true', decide_eq_true_eq, decide_eq_false_iff_not, beq_iff_eq, bne_iff_ne, ne_eq, inI64, List.length_append] at *) <;> omega)
  refine end_ret rfl ?_
  simp only [fin, go_sem, Int.cast_ofNat_Int, Nat.reduceEqDiff, reduceIte, Nat.reduceAdd, Nat.reduceMul, Nat.reduceLeDiff, Nat.reduceSub, Nat.reduceLT, Nat.zero_lt_succ, Int.reduceToNat, Int.reduceAdd, Int.reduceSub, Int.reduceMul, Int.reduceNeg, Int.reduceLT, Int.reduceLE, Int.reduceEq, Int.reduceBEq, Int.reduceBNe, Nat.reduceBEq, List.reduceReplicate, vS]
  exact LeA.refl _
set_option maxHeartbeats 1000000 in
theorem v26_3 {a b : Int} (h0 : el a) (h1 : el b) : PC Try.prog 26 [.lit (.string (⟨#[100, 105, 118]⟩ : ByteArray)), .sl false 1 [.lit (.int .i64 a), .lit (.int .i64 b)]] (.lit (.int .i64 (vS 3 [a, b]))) := by
  refine pc_of E5_ok mixed (fun _ => [0, 1, 4, 5, 6, 16, 26, 36, 46, 51, 67, 77, 87, 94, 105, 111, 120, 126, 135]) Try.func26 rfl (by kernel_rfl) (Nat.le_of_ble_eq_true rfl) ?_
  simp only [initF_cons, initF_nil, Nat.reduceAdd]
  refine t_name fun KF => ?_
  unfold E5
  repeat' (first
    | with_reducible refine t_seq fun K => ?_
    | with_reducible refine t_block ?_
    | with_reducible refine t_scope ?_
    | with_reducible refine t_label ?_
    | with_reducible refine t_skip ?_
    | with_reducible refine t_exit ?_
    | with_reducible refine t_ret ?_
    | with_reducible refine t_k ?_
    | (with_reducible refine t_gF ?_)
    | ((first | with_reducible refine t_kE ?_ | with_reducible refine t_kD ?_ | with_reducible refine t_gS ?_ | with_reducible refine t_kL ?_ | (with_reducible refine t_kLE ?_ ?_; rotate_left) | with_reducible refine t_region fun K => ?_ | with_reducible refine t_draw (by kernel_rfl) fun K => ?_); simp only [go_sem, Int.cast_ofNat_Int, Nat.reduceEqDiff, reduceIte, Nat.reduceAdd, Nat.reduceMul, Nat.reduceLeDiff, Nat.reduceSub, Nat.reduceLT, Nat.zero_lt_succ, Int.reduceToNat, Int.reduceAdd, Int.reduceSub, Int.reduceMul, Int.reduceNeg, Int.reduceLT, Int.reduceLE, Int.reduceEq, Int.reduceBEq, Int.reduceBNe, Nat.reduceBEq, List.reduceReplicate, con16_f, con32_f, con33_f, con34_f, con16_c, con32_c, con33_c, con34_10, con34_11, con34_12, con34_13, con34_14, con34_15, eq_true h0])
    | (with_reducible exact kp_nil)
    | (with_reducible exact Kp.refl _)
    | (with_reducible exact kp_to)
    | (with_reducible refine kp_cons ?_)
    | (with_reducible refine kp_arr ?_)
    | (with_reducible refine kp_app ?_)
    | ((with_reducible refine t_cond fun A B => ?_); simp only [go_sem, Int.cast_ofNat_Int, Nat.reduceEqDiff, reduceIte, Nat.reduceAdd, Nat.reduceMul, Nat.reduceLeDiff, Nat.reduceSub, Nat.reduceLT, Nat.zero_lt_succ, Int.reduceToNat, Int.reduceAdd, Int.reduceSub, Int.reduceMul, Int.reduceNeg, Int.reduceLT, Int.reduceLE, Int.reduceEq, Int.reduceBEq, Int.reduceBNe, Nat.reduceBEq, List.reduceReplicate, con16_f, con32_f, con33_f, con34_f, con16_c, con32_c, con33_c, con34_10, con34_11, con34_12, con34_13, con34_14, con34_15, eq_true h0]; first | (with_reducible refine A.h ?_) | (with_reducible refine B.h ?_) | refine And.intro (fun hc => A.h ?_) (fun hc => B.h ?_))
    | simp only [thenQ_n, thenQ_r, thenQ_e, blockQ_n, blockQ_r, blockQ_e, scopeQ_n, scopeQ_r, scopeQ_e, Nat.reduceEqDiff, reduceIte]
    | (with_reducible refine And.intro ?_ ?_)
    | with_reducible intro vr)
  all_goals try (intros; (try simp only [Bool.and_eq_true, Bool.or_eq_true, Bool.not_eq_true', decide_eq_true_eq, decide_eq_false_iff_not, beq_iff_eq, bne_iff_ne, ne_eq, inI64, List.length_append] at *) <;> omega)
  refine end_ret rfl ?_
  simp only [fin, go_sem, Int.cast_ofNat_Int, Nat.reduceEqDiff, reduceIte, Nat.reduceAdd, Nat.reduceMul, Nat.reduceLeDiff, Nat.reduceSub, Nat.reduceLT, Nat.zero_lt_succ, Int.reduceToNat, Int.reduceAdd, Int.reduceSub, Int.reduceMul, Int.reduceNeg, Int.reduceLT, Int.reduceLE, Int.reduceEq, Int.reduceBEq, Int.reduceBNe, Nat.reduceBEq, List.reduceReplicate, vS]
  exact LeA.refl _
set_option maxHeartbeats 1000000 in
theorem v26_4 {a b : Int} (h0 : el a) (h1 : el b) : PC Try.prog 26 [.lit (.string (⟨#[109, 111, 100]⟩ : ByteArray)), .sl false 1 [.lit (.int .i64 a), .lit (.int .i64 b)]] (.lit (.int .i64 (vS 4 [a, b]))) := by
  simp only [vS]
  by_cases hb : b = 0
  · have g1 : (b == 0) = true := by rw [beq_iff_eq]; exact hb
    rw [if_pos hb]
    refine pc_of E5_ok mixed (fun _ => [0, 1, 4, 5, 6, 16, 26, 36, 46, 51, 67, 77, 87, 94, 105, 111, 120, 126, 135]) Try.func26 rfl (by kernel_rfl) (Nat.le_of_ble_eq_true rfl) ?_
    simp only [initF_cons, initF_nil, Nat.reduceAdd]
    refine t_name fun KF => ?_
    unfold E5
    repeat' (first
      | with_reducible refine t_seq fun K => ?_
      | with_reducible refine t_block ?_
      | with_reducible refine t_scope ?_
      | with_reducible refine t_label ?_
      | with_reducible refine t_skip ?_
      | with_reducible refine t_exit ?_
      | with_reducible refine t_ret ?_
      | with_reducible refine t_k ?_
      | (with_reducible refine t_gF ?_)
      | ((first | with_reducible refine t_kE ?_ | with_reducible refine t_kD ?_ | with_reducible refine t_gS ?_ | with_reducible refine t_kL ?_ | (with_reducible refine t_kLE ?_ ?_; rotate_left) | with_reducible refine t_region fun K => ?_ | with_reducible refine t_draw (by kernel_rfl) fun K => ?_); simp only [go_sem, Int.cast_ofNat_Int, Nat.reduceEqDiff, reduceIte, Nat.reduceAdd, Nat.reduceMul, Nat.reduceLeDiff, Nat.reduceSub, Nat.reduceLT, Nat.zero_lt_succ, Int.reduceToNat, Int.reduceAdd, Int.reduceSub, Int.reduceMul, Int.reduceNeg, Int.reduceLT, Int.reduceLE, Int.reduceEq, Int.reduceBEq, Int.reduceBNe, Nat.reduceBEq, List.reduceReplicate, con16_f, con32_f, con33_f, con34_f, con16_c, con32_c, con33_c, con34_10, con34_11, con34_12, con34_13, con34_14, con34_15, g1])
      | (with_reducible exact kp_nil)
      | (with_reducible exact Kp.refl _)
      | (with_reducible exact kp_to)
      | (with_reducible refine kp_cons ?_)
      | (with_reducible refine kp_arr ?_)
      | (with_reducible refine kp_app ?_)
      | ((with_reducible refine t_cond fun A B => ?_); simp only [go_sem, Int.cast_ofNat_Int, Nat.reduceEqDiff, reduceIte, Nat.reduceAdd, Nat.reduceMul, Nat.reduceLeDiff, Nat.reduceSub, Nat.reduceLT, Nat.zero_lt_succ, Int.reduceToNat, Int.reduceAdd, Int.reduceSub, Int.reduceMul, Int.reduceNeg, Int.reduceLT, Int.reduceLE, Int.reduceEq, Int.reduceBEq, Int.reduceBNe, Nat.reduceBEq, List.reduceReplicate, con16_f, con32_f, con33_f, con34_f, con16_c, con32_c, con33_c, con34_10, con34_11, con34_12, con34_13, con34_14, con34_15, g1]; first | (with_reducible refine A.h ?_) | (with_reducible refine B.h ?_) | refine And.intro (fun hc => A.h ?_) (fun hc => B.h ?_))
      | simp only [thenQ_n, thenQ_r, thenQ_e, blockQ_n, blockQ_r, blockQ_e, scopeQ_n, scopeQ_r, scopeQ_e, Nat.reduceEqDiff, reduceIte]
      | (with_reducible refine And.intro ?_ ?_)
      | with_reducible intro vr)
    all_goals try (intros; (try simp only [Bool.and_eq_true, Bool.or_eq_true, Bool.not_eq_true', decide_eq_true_eq, decide_eq_false_iff_not, beq_iff_eq, bne_iff_ne, ne_eq, inI64, List.length_append] at *) <;> omega)
    refine end_ret rfl ?_
    simp only [fin, go_sem, Int.cast_ofNat_Int, Nat.reduceEqDiff, reduceIte, Nat.reduceAdd, Nat.reduceMul, Nat.reduceLeDiff, Nat.reduceSub, Nat.reduceLT, Nat.zero_lt_succ, Int.reduceToNat, Int.reduceAdd, Int.reduceSub, Int.reduceMul, Int.reduceNeg, Int.reduceLT, Int.reduceLE, Int.reduceEq, Int.reduceBEq, Int.reduceBNe, Nat.reduceBEq, List.reduceReplicate, vS]
    exact LeA.refl _
  · have g1 : (b == 0) = false := by rw [beq_eq_false_iff_ne]; exact hb
    rw [if_neg hb]
    have hm := bflo_bd h0 h1 hb
    have hl := flo_bd (b := b) h0
    have h0' := h0
    have h1' := h1
    unfold el at h0' h1'
    refine pc_of E5_ok mixed (fun _ => [0, 1, 4, 5, 6, 16, 26, 36, 46, 51, 67, 77, 87, 94, 105, 111, 120, 126, 135]) Try.func26 rfl (by kernel_rfl) (Nat.le_of_ble_eq_true rfl) ?_
    simp only [initF_cons, initF_nil, Nat.reduceAdd]
    refine t_name fun KF => ?_
    unfold E5
    repeat' (first
      | with_reducible refine t_seq fun K => ?_
      | with_reducible refine t_block ?_
      | with_reducible refine t_scope ?_
      | with_reducible refine t_label ?_
      | with_reducible refine t_skip ?_
      | with_reducible refine t_exit ?_
      | with_reducible refine t_ret ?_
      | with_reducible refine t_k ?_
      | (with_reducible refine t_gF ?_)
      | ((first | with_reducible refine t_kE ?_ | with_reducible refine t_kD ?_ | with_reducible refine t_gS ?_ | with_reducible refine t_kL ?_ | (with_reducible refine t_kLE ?_ ?_; rotate_left) | with_reducible refine t_region fun K => ?_ | with_reducible refine t_draw (by kernel_rfl) fun K => ?_); simp only [go_sem, Int.cast_ofNat_Int, Nat.reduceEqDiff, reduceIte, Nat.reduceAdd, Nat.reduceMul, Nat.reduceLeDiff, Nat.reduceSub, Nat.reduceLT, Nat.zero_lt_succ, Int.reduceToNat, Int.reduceAdd, Int.reduceSub, Int.reduceMul, Int.reduceNeg, Int.reduceLT, Int.reduceLE, Int.reduceEq, Int.reduceBEq, Int.reduceBNe, Nat.reduceBEq, List.reduceReplicate, con16_f, con32_f, con33_f, con34_f, con16_c, con32_c, con33_c, con34_10, con34_11, con34_12, con34_13, con34_14, con34_15, g1, eq_true h0])
      | (with_reducible exact kp_nil)
      | (with_reducible exact Kp.refl _)
      | (with_reducible exact kp_to)
      | (with_reducible refine kp_cons ?_)
      | (with_reducible refine kp_arr ?_)
      | (with_reducible refine kp_app ?_)
      | ((with_reducible refine t_cond fun A B => ?_); simp only [go_sem, Int.cast_ofNat_Int, Nat.reduceEqDiff, reduceIte, Nat.reduceAdd, Nat.reduceMul, Nat.reduceLeDiff, Nat.reduceSub, Nat.reduceLT, Nat.zero_lt_succ, Int.reduceToNat, Int.reduceAdd, Int.reduceSub, Int.reduceMul, Int.reduceNeg, Int.reduceLT, Int.reduceLE, Int.reduceEq, Int.reduceBEq, Int.reduceBNe, Nat.reduceBEq, List.reduceReplicate, con16_f, con32_f, con33_f, con34_f, con16_c, con32_c, con33_c, con34_10, con34_11, con34_12, con34_13, con34_14, con34_15, g1, eq_true h0]; first | (with_reducible refine A.h ?_) | (with_reducible refine B.h ?_) | refine And.intro (fun hc => A.h ?_) (fun hc => B.h ?_))
      | simp only [thenQ_n, thenQ_r, thenQ_e, blockQ_n, blockQ_r, blockQ_e, scopeQ_n, scopeQ_r, scopeQ_e, Nat.reduceEqDiff, reduceIte]
      | (with_reducible refine And.intro ?_ ?_)
      | with_reducible intro vr)
    all_goals try (intros; (try simp only [Bool.and_eq_true, Bool.or_eq_true, Bool.not_eq_true', decide_eq_true_eq, decide_eq_false_iff_not, beq_iff_eq, bne_iff_ne, ne_eq, inI64, List.length_append] at *) <;> omega)
    refine end_ret rfl ?_
    simp only [fin, go_sem, Int.cast_ofNat_Int, Nat.reduceEqDiff, reduceIte, Nat.reduceAdd, Nat.reduceMul, Nat.reduceLeDiff, Nat.reduceSub, Nat.reduceLT, Nat.zero_lt_succ, Int.reduceToNat, Int.reduceAdd, Int.reduceSub, Int.reduceMul, Int.reduceNeg, Int.reduceLT, Int.reduceLE, Int.reduceEq, Int.reduceBEq, Int.reduceBNe, Nat.reduceBEq, List.reduceReplicate, vS]
    exact LeA.refl _
set_option maxHeartbeats 1000000 in
theorem v26_5 {a b : Int} (h0 : el a) (h1 : el b) : PC Try.prog 26 [.lit (.string (⟨#[109, 105, 110]⟩ : ByteArray)), .sl false 1 [.lit (.int .i64 a), .lit (.int .i64 b)]] (.lit (.int .i64 (vS 5 [a, b]))) := by
  refine pc_of E5_ok mixed (fun _ => [0, 1, 4, 5, 6, 16, 26, 36, 46, 51, 67, 77, 87, 94, 105, 111, 120, 126, 135]) Try.func26 rfl (by kernel_rfl) (Nat.le_of_ble_eq_true rfl) ?_
  simp only [initF_cons, initF_nil, Nat.reduceAdd]
  refine t_name fun KF => ?_
  unfold E5
  repeat' (first
    | with_reducible refine t_seq fun K => ?_
    | with_reducible refine t_block ?_
    | with_reducible refine t_scope ?_
    | with_reducible refine t_label ?_
    | with_reducible refine t_skip ?_
    | with_reducible refine t_exit ?_
    | with_reducible refine t_ret ?_
    | with_reducible refine t_k ?_
    | (with_reducible refine t_gF ?_)
    | ((first | with_reducible refine t_kE ?_ | with_reducible refine t_kD ?_ | with_reducible refine t_gS ?_ | with_reducible refine t_kL ?_ | (with_reducible refine t_kLE ?_ ?_; rotate_left) | with_reducible refine t_region fun K => ?_ | with_reducible refine t_draw (by kernel_rfl) fun K => ?_); simp only [go_sem, Int.cast_ofNat_Int, Nat.reduceEqDiff, reduceIte, Nat.reduceAdd, Nat.reduceMul, Nat.reduceLeDiff, Nat.reduceSub, Nat.reduceLT, Nat.zero_lt_succ, Int.reduceToNat, Int.reduceAdd, Int.reduceSub, Int.reduceMul, Int.reduceNeg, Int.reduceLT, Int.reduceLE, Int.reduceEq, Int.reduceBEq, Int.reduceBNe, Nat.reduceBEq, List.reduceReplicate, con16_f, con32_f, con33_f, con34_f, con16_c, con32_c, con33_c, con34_10, con34_11, con34_12, con34_13, con34_14, con34_15])
    | (with_reducible exact kp_nil)
    | (with_reducible exact Kp.refl _)
    | (with_reducible exact kp_to)
    | (with_reducible refine kp_cons ?_)
    | (with_reducible refine kp_arr ?_)
    | (with_reducible refine kp_app ?_)
    | ((with_reducible refine t_cond fun A B => ?_); simp only [go_sem, Int.cast_ofNat_Int, Nat.reduceEqDiff, reduceIte, Nat.reduceAdd, Nat.reduceMul, Nat.reduceLeDiff, Nat.reduceSub, Nat.reduceLT, Nat.zero_lt_succ, Int.reduceToNat, Int.reduceAdd, Int.reduceSub, Int.reduceMul, Int.reduceNeg, Int.reduceLT, Int.reduceLE, Int.reduceEq, Int.reduceBEq, Int.reduceBNe, Nat.reduceBEq, List.reduceReplicate, con16_f, con32_f, con33_f, con34_f, con16_c, con32_c, con33_c, con34_10, con34_11, con34_12, con34_13, con34_14, con34_15]; first | (with_reducible refine A.h ?_) | (with_reducible refine B.h ?_) | refine And.intro (fun hc => A.h ?_) (fun hc => B.h ?_))
    | simp only [thenQ_n, thenQ_r, thenQ_e, blockQ_n, blockQ_r, blockQ_e, scopeQ_n, scopeQ_r, scopeQ_e, Nat.reduceEqDiff, reduceIte]
    | (with_reducible refine And.intro ?_ ?_)
    | with_reducible intro vr)
  all_goals try (intros; (try simp only [Bool.and_eq_true, Bool.or_eq_true, Bool.not_eq_true', decide_eq_true_eq, decide_eq_false_iff_not, beq_iff_eq, bne_iff_ne, ne_eq, inI64, List.length_append] at *) <;> omega)
  refine end_ret rfl ?_
  simp only [fin, go_sem, Int.cast_ofNat_Int, Nat.reduceEqDiff, reduceIte, Nat.reduceAdd, Nat.reduceMul, Nat.reduceLeDiff, Nat.reduceSub, Nat.reduceLT, Nat.zero_lt_succ, Int.reduceToNat, Int.reduceAdd, Int.reduceSub, Int.reduceMul, Int.reduceNeg, Int.reduceLT, Int.reduceLE, Int.reduceEq, Int.reduceBEq, Int.reduceBNe, Nat.reduceBEq, List.reduceReplicate, vS]
  exact LeA.refl _
set_option maxHeartbeats 1000000 in
theorem v26_6 {a b : Int} (h0 : el a) (h1 : el b) : PC Try.prog 26 [.lit (.string (⟨#[109, 97, 120]⟩ : ByteArray)), .sl false 1 [.lit (.int .i64 a), .lit (.int .i64 b)]] (.lit (.int .i64 (vS 6 [a, b]))) := by
  refine pc_of E5_ok mixed (fun _ => [0, 1, 4, 5, 6, 16, 26, 36, 46, 51, 67, 77, 87, 94, 105, 111, 120, 126, 135]) Try.func26 rfl (by kernel_rfl) (Nat.le_of_ble_eq_true rfl) ?_
  simp only [initF_cons, initF_nil, Nat.reduceAdd]
  refine t_name fun KF => ?_
  unfold E5
  repeat' (first
    | with_reducible refine t_seq fun K => ?_
    | with_reducible refine t_block ?_
    | with_reducible refine t_scope ?_
    | with_reducible refine t_label ?_
    | with_reducible refine t_skip ?_
    | with_reducible refine t_exit ?_
    | with_reducible refine t_ret ?_
    | with_reducible refine t_k ?_
    | (with_reducible refine t_gF ?_)
    | ((first | with_reducible refine t_kE ?_ | with_reducible refine t_kD ?_ | with_reducible refine t_gS ?_ | with_reducible refine t_kL ?_ | (with_reducible refine t_kLE ?_ ?_; rotate_left) | with_reducible refine t_region fun K => ?_ | with_reducible refine t_draw (by kernel_rfl) fun K => ?_); simp only [go_sem, Int.cast_ofNat_Int, Nat.reduceEqDiff, reduceIte, Nat.reduceAdd, Nat.reduceMul, Nat.reduceLeDiff, Nat.reduceSub, Nat.reduceLT, Nat.zero_lt_succ, Int.reduceToNat, Int.reduceAdd, Int.reduceSub, Int.reduceMul, Int.reduceNeg, Int.reduceLT, Int.reduceLE, Int.reduceEq, Int.reduceBEq, Int.reduceBNe, Nat.reduceBEq, List.reduceReplicate, con16_f, con32_f, con33_f, con34_f, con16_c, con32_c, con33_c, con34_10, con34_11, con34_12, con34_13, con34_14, con34_15])
    | (with_reducible exact kp_nil)
    | (with_reducible exact Kp.refl _)
    | (with_reducible exact kp_to)
    | (with_reducible refine kp_cons ?_)
    | (with_reducible refine kp_arr ?_)
    | (with_reducible refine kp_app ?_)
    | ((with_reducible refine t_cond fun A B => ?_); simp only [go_sem, Int.cast_ofNat_Int, Nat.reduceEqDiff, reduceIte, Nat.reduceAdd, Nat.reduceMul, Nat.reduceLeDiff, Nat.reduceSub, Nat.reduceLT, Nat.zero_lt_succ, Int.reduceToNat, Int.reduceAdd, Int.reduceSub, Int.reduceMul, Int.reduceNeg, Int.reduceLT, Int.reduceLE, Int.reduceEq, Int.reduceBEq, Int.reduceBNe, Nat.reduceBEq, List.reduceReplicate, con16_f, con32_f, con33_f, con34_f, con16_c, con32_c, con33_c, con34_10, con34_11, con34_12, con34_13, con34_14, con34_15]; first | (with_reducible refine A.h ?_) | (with_reducible refine B.h ?_) | refine And.intro (fun hc => A.h ?_) (fun hc => B.h ?_))
    | simp only [thenQ_n, thenQ_r, thenQ_e, blockQ_n, blockQ_r, blockQ_e, scopeQ_n, scopeQ_r, scopeQ_e, Nat.reduceEqDiff, reduceIte]
    | (with_reducible refine And.intro ?_ ?_)
    | with_reducible intro vr)
  all_goals try (intros; (try simp only [Bool.and_eq_true, Bool.or_eq_true, Bool.not_eq_true', decide_eq_true_eq, decide_eq_false_iff_not, beq_iff_eq, bne_iff_ne, ne_eq, inI64, List.length_append] at *) <;> omega)
  refine end_ret rfl ?_
  simp only [fin, go_sem, Int.cast_ofNat_Int, Nat.reduceEqDiff, reduceIte, Nat.reduceAdd, Nat.reduceMul, Nat.reduceLeDiff, Nat.reduceSub, Nat.reduceLT, Nat.zero_lt_succ, Int.reduceToNat, Int.reduceAdd, Int.reduceSub, Int.reduceMul, Int.reduceNeg, Int.reduceLT, Int.reduceLE, Int.reduceEq, Int.reduceBEq, Int.reduceBNe, Nat.reduceBEq, List.reduceReplicate, vS]
  exact LeA.refl _
set_option maxHeartbeats 1000000 in
theorem v26_7 {a : Int} (h0 : el a) : PC Try.prog 26 [.lit (.string (⟨#[110, 101, 103]⟩ : ByteArray)), .sl false 1 [.lit (.int .i64 a)]] (.lit (.int .i64 (vS 7 [a]))) := by
  unfold el at h0
  refine pc_of E5_ok mixed (fun _ => [0, 1, 4, 5, 6, 16, 26, 36, 46, 51, 67, 77, 87, 94, 105, 111, 120, 126, 135]) Try.func26 rfl (by kernel_rfl) (Nat.le_of_ble_eq_true rfl) ?_
  simp only [initF_cons, initF_nil, Nat.reduceAdd]
  refine t_name fun KF => ?_
  unfold E5
  repeat' (first
    | with_reducible refine t_seq fun K => ?_
    | with_reducible refine t_block ?_
    | with_reducible refine t_scope ?_
    | with_reducible refine t_label ?_
    | with_reducible refine t_skip ?_
    | with_reducible refine t_exit ?_
    | with_reducible refine t_ret ?_
    | with_reducible refine t_k ?_
    | (with_reducible refine t_gF ?_)
    | ((first | with_reducible refine t_kE ?_ | with_reducible refine t_kD ?_ | with_reducible refine t_gS ?_ | with_reducible refine t_kL ?_ | (with_reducible refine t_kLE ?_ ?_; rotate_left) | with_reducible refine t_region fun K => ?_ | with_reducible refine t_draw (by kernel_rfl) fun K => ?_); simp only [go_sem, Int.cast_ofNat_Int, Nat.reduceEqDiff, reduceIte, Nat.reduceAdd, Nat.reduceMul, Nat.reduceLeDiff, Nat.reduceSub, Nat.reduceLT, Nat.zero_lt_succ, Int.reduceToNat, Int.reduceAdd, Int.reduceSub, Int.reduceMul, Int.reduceNeg, Int.reduceLT, Int.reduceLE, Int.reduceEq, Int.reduceBEq, Int.reduceBNe, Nat.reduceBEq, List.reduceReplicate, con16_f, con32_f, con33_f, con34_f, con16_c, con32_c, con33_c, con34_10, con34_11, con34_12, con34_13, con34_14, con34_15])
    | (with_reducible exact kp_nil)
    | (with_reducible exact Kp.refl _)
    | (with_reducible exact kp_to)
    | (with_reducible refine kp_cons ?_)
    | (with_reducible refine kp_arr ?_)
    | (with_reducible refine kp_app ?_)
    | ((with_reducible refine t_cond fun A B => ?_); simp only [go_sem, Int.cast_ofNat_Int, Nat.reduceEqDiff, reduceIte, Nat.reduceAdd, Nat.reduceMul, Nat.reduceLeDiff, Nat.reduceSub, Nat.reduceLT, Nat.zero_lt_succ, Int.reduceToNat, Int.reduceAdd, Int.reduceSub, Int.reduceMul, Int.reduceNeg, Int.reduceLT, Int.reduceLE, Int.reduceEq, Int.reduceBEq, Int.reduceBNe, Nat.reduceBEq, List.reduceReplicate, con16_f, con32_f, con33_f, con34_f, con16_c, con32_c, con33_c, con34_10, con34_11, con34_12, con34_13, con34_14, con34_15]; first | (with_reducible refine A.h ?_) | (with_reducible refine B.h ?_) | refine And.intro (fun hc => A.h ?_) (fun hc => B.h ?_))
    | simp only [thenQ_n, thenQ_r, thenQ_e, blockQ_n, blockQ_r, blockQ_e, scopeQ_n, scopeQ_r, scopeQ_e, Nat.reduceEqDiff, reduceIte]
    | (with_reducible refine And.intro ?_ ?_)
    | with_reducible intro vr)
  all_goals try (intros; (try simp only [Bool.and_eq_true, Bool.or_eq_true, Bool.not_eq_true', decide_eq_true_eq, decide_eq_false_iff_not, beq_iff_eq, bne_iff_ne, ne_eq, inI64, List.length_append] at *) <;> omega)
  refine end_ret rfl ?_
  simp only [fin, go_sem, Int.cast_ofNat_Int, Nat.reduceEqDiff, reduceIte, Nat.reduceAdd, Nat.reduceMul, Nat.reduceLeDiff, Nat.reduceSub, Nat.reduceLT, Nat.zero_lt_succ, Int.reduceToNat, Int.reduceAdd, Int.reduceSub, Int.reduceMul, Int.reduceNeg, Int.reduceLT, Int.reduceLE, Int.reduceEq, Int.reduceBEq, Int.reduceBNe, Nat.reduceBEq, List.reduceReplicate, vS]
  exact LeA.refl _
set_option maxHeartbeats 1000000 in
theorem v26_8 {a : Int} (h0 : el a) : PC Try.prog 26 [.lit (.string (⟨#[97, 98, 115]⟩ : ByteArray)), .sl false 1 [.lit (.int .i64 a)]] (.lit (.int .i64 (vS 8 [a]))) := by
  unfold el at h0
  have hm := max_el (b := 0 - a) h0
  refine pc_of E5_ok mixed (fun _ => [0, 1, 4, 5, 6, 16, 26, 36, 46, 51, 67, 77, 87, 94, 105, 111, 120, 126, 135]) Try.func26 rfl (by kernel_rfl) (Nat.le_of_ble_eq_true rfl) ?_
  simp only [initF_cons, initF_nil, Nat.reduceAdd]
  refine t_name fun KF => ?_
  unfold E5
  repeat' (first
    | with_reducible refine t_seq fun K => ?_
    | with_reducible refine t_block ?_
    | with_reducible refine t_scope ?_
    | with_reducible refine t_label ?_
    | with_reducible refine t_skip ?_
    | with_reducible refine t_exit ?_
    | with_reducible refine t_ret ?_
    | with_reducible refine t_k ?_
    | (with_reducible refine t_gF ?_)
    | ((first | with_reducible refine t_kE ?_ | with_reducible refine t_kD ?_ | with_reducible refine t_gS ?_ | with_reducible refine t_kL ?_ | (with_reducible refine t_kLE ?_ ?_; rotate_left) | with_reducible refine t_region fun K => ?_ | with_reducible refine t_draw (by kernel_rfl) fun K => ?_); simp only [go_sem, Int.cast_ofNat_Int, Nat.reduceEqDiff, reduceIte, Nat.reduceAdd, Nat.reduceMul, Nat.reduceLeDiff, Nat.reduceSub, Nat.reduceLT, Nat.zero_lt_succ, Int.reduceToNat, Int.reduceAdd, Int.reduceSub, Int.reduceMul, Int.reduceNeg, Int.reduceLT, Int.reduceLE, Int.reduceEq, Int.reduceBEq, Int.reduceBNe, Nat.reduceBEq, List.reduceReplicate, con16_f, con32_f, con33_f, con34_f, con16_c, con32_c, con33_c, con34_10, con34_11, con34_12, con34_13, con34_14, con34_15])
    | (with_reducible exact kp_nil)
    | (with_reducible exact Kp.refl _)
    | (with_reducible exact kp_to)
    | (with_reducible refine kp_cons ?_)
    | (with_reducible refine kp_arr ?_)
    | (with_reducible refine kp_app ?_)
    | ((with_reducible refine t_cond fun A B => ?_); simp only [go_sem, Int.cast_ofNat_Int, Nat.reduceEqDiff, reduceIte, Nat.reduceAdd, Nat.reduceMul, Nat.reduceLeDiff, Nat.reduceSub, Nat.reduceLT, Nat.zero_lt_succ, Int.reduceToNat, Int.reduceAdd, Int.reduceSub, Int.reduceMul, Int.reduceNeg, Int.reduceLT, Int.reduceLE, Int.reduceEq, Int.reduceBEq, Int.reduceBNe, Nat.reduceBEq, List.reduceReplicate, con16_f, con32_f, con33_f, con34_f, con16_c, con32_c, con33_c, con34_10, con34_11, con34_12, con34_13, con34_14, con34_15]; first | (with_reducible refine A.h ?_) | (with_reducible refine B.h ?_) | refine And.intro (fun hc => A.h ?_) (fun hc => B.h ?_))
    | simp only [thenQ_n, thenQ_r, thenQ_e, blockQ_n, blockQ_r, blockQ_e, scopeQ_n, scopeQ_r, scopeQ_e, Nat.reduceEqDiff, reduceIte]
    | (with_reducible refine And.intro ?_ ?_)
    | with_reducible intro vr)
  all_goals try (intros; (try simp only [Bool.and_eq_true, Bool.or_eq_true, Bool.not_eq_true', decide_eq_true_eq, decide_eq_false_iff_not, beq_iff_eq, bne_iff_ne, ne_eq, inI64, List.length_append] at *) <;> omega)
  refine end_ret rfl ?_
  simp only [fin, go_sem, Int.cast_ofNat_Int, Nat.reduceEqDiff, reduceIte, Nat.reduceAdd, Nat.reduceMul, Nat.reduceLeDiff, Nat.reduceSub, Nat.reduceLT, Nat.zero_lt_succ, Int.reduceToNat, Int.reduceAdd, Int.reduceSub, Int.reduceMul, Int.reduceNeg, Int.reduceLT, Int.reduceLE, Int.reduceEq, Int.reduceBEq, Int.reduceBNe, Nat.reduceBEq, List.reduceReplicate, vS]
  exact LeA.refl _
set_option maxHeartbeats 1000000 in
theorem v26_9 {a : Int} (h0 : el a) : PC Try.prog 26 [.lit (.string (⟨#[115, 105, 103, 110]⟩ : ByteArray)), .sl false 1 [.lit (.int .i64 a)]] (.lit (.int .i64 (vS 9 [a]))) := by
  refine pc_of E5_ok mixed (fun _ => [0, 1, 4, 5, 6, 16, 26, 36, 46, 51, 67, 77, 87, 94, 105, 111, 120, 126, 135]) Try.func26 rfl (by kernel_rfl) (Nat.le_of_ble_eq_true rfl) ?_
  simp only [initF_cons, initF_nil, Nat.reduceAdd]
  refine t_name fun KF => ?_
  unfold E5
  repeat' (first
    | with_reducible refine t_seq fun K => ?_
    | with_reducible refine t_block ?_
    | with_reducible refine t_scope ?_
    | with_reducible refine t_label ?_
    | with_reducible refine t_skip ?_
    | with_reducible refine t_exit ?_
    | with_reducible refine t_ret ?_
    | with_reducible refine t_k ?_
    | (with_reducible refine t_gF ?_)
    | ((first | with_reducible refine t_kE ?_ | with_reducible refine t_kD ?_ | with_reducible refine t_gS ?_ | with_reducible refine t_kL ?_ | (with_reducible refine t_kLE ?_ ?_; rotate_left) | with_reducible refine t_region fun K => ?_ | with_reducible refine t_draw (by kernel_rfl) fun K => ?_); simp only [go_sem, Int.cast_ofNat_Int, Nat.reduceEqDiff, reduceIte, Nat.reduceAdd, Nat.reduceMul, Nat.reduceLeDiff, Nat.reduceSub, Nat.reduceLT, Nat.zero_lt_succ, Int.reduceToNat, Int.reduceAdd, Int.reduceSub, Int.reduceMul, Int.reduceNeg, Int.reduceLT, Int.reduceLE, Int.reduceEq, Int.reduceBEq, Int.reduceBNe, Nat.reduceBEq, List.reduceReplicate, con16_f, con32_f, con33_f, con34_f, con16_c, con32_c, con33_c, con34_10, con34_11, con34_12, con34_13, con34_14, con34_15])
    | (with_reducible exact kp_nil)
    | (with_reducible exact Kp.refl _)
    | (with_reducible exact kp_to)
    | (with_reducible refine kp_cons ?_)
    | (with_reducible refine kp_arr ?_)
    | (with_reducible refine kp_app ?_)
    | ((with_reducible refine t_cond fun A B => ?_); simp only [go_sem, Int.cast_ofNat_Int, Nat.reduceEqDiff, reduceIte, Nat.reduceAdd, Nat.reduceMul, Nat.reduceLeDiff, Nat.reduceSub, Nat.reduceLT, Nat.zero_lt_succ, Int.reduceToNat, Int.reduceAdd, Int.reduceSub, Int.reduceMul, Int.reduceNeg, Int.reduceLT, Int.reduceLE, Int.reduceEq, Int.reduceBEq, Int.reduceBNe, Nat.reduceBEq, List.reduceReplicate, con16_f, con32_f, con33_f, con34_f, con16_c, con32_c, con33_c, con34_10, con34_11, con34_12, con34_13, con34_14, con34_15]; first | (with_reducible refine A.h ?_) | (with_reducible refine B.h ?_) | refine And.intro (fun hc => A.h ?_) (fun hc => B.h ?_))
    | simp only [thenQ_n, thenQ_r, thenQ_e, blockQ_n, blockQ_r, blockQ_e, scopeQ_n, scopeQ_r, scopeQ_e, Nat.reduceEqDiff, reduceIte]
    | (with_reducible refine And.intro ?_ ?_)
    | with_reducible intro vr)
  all_goals try (intros; (try simp only [Bool.and_eq_true, Bool.or_eq_true, Bool.not_eq_true', decide_eq_true_eq, decide_eq_false_iff_not, beq_iff_eq, bne_iff_ne, ne_eq, inI64, List.length_append] at *) <;> omega)
  refine end_ret rfl ?_
  simp only [fin, go_sem, Int.cast_ofNat_Int, Nat.reduceEqDiff, reduceIte, Nat.reduceAdd, Nat.reduceMul, Nat.reduceLeDiff, Nat.reduceSub, Nat.reduceLT, Nat.zero_lt_succ, Int.reduceToNat, Int.reduceAdd, Int.reduceSub, Int.reduceMul, Int.reduceNeg, Int.reduceLT, Int.reduceLE, Int.reduceEq, Int.reduceBEq, Int.reduceBNe, Nat.reduceBEq, List.reduceReplicate, vS]
  exact LeA.refl _
set_option maxHeartbeats 1000000 in
theorem v26_10 {a b : Int} (h0 : el a) (h1 : el b) : PC Try.prog 26 [.lit (.string (⟨#[108, 116]⟩ : ByteArray)), .sl false 1 [.lit (.int .i64 a), .lit (.int .i64 b)]] (.lit (.int .i64 (vS 10 [a, b]))) := by
  refine pc_of E5_ok mixed (fun _ => [0, 1, 4, 5, 6, 16, 26, 36, 46, 51, 67, 77, 87, 94, 105, 111, 120, 126, 135]) Try.func26 rfl (by kernel_rfl) (Nat.le_of_ble_eq_true rfl) ?_
  simp only [initF_cons, initF_nil, Nat.reduceAdd]
  refine t_name fun KF => ?_
  unfold E5
  repeat' (first
    | with_reducible refine t_seq fun K => ?_
    | with_reducible refine t_block ?_
    | with_reducible refine t_scope ?_
    | with_reducible refine t_label ?_
    | with_reducible refine t_skip ?_
    | with_reducible refine t_exit ?_
    | with_reducible refine t_ret ?_
    | with_reducible refine t_k ?_
    | (with_reducible refine t_gF ?_)
    | ((first | with_reducible refine t_kE ?_ | with_reducible refine t_kD ?_ | with_reducible refine t_gS ?_ | with_reducible refine t_kL ?_ | (with_reducible refine t_kLE ?_ ?_; rotate_left) | with_reducible refine t_region fun K => ?_ | with_reducible refine t_draw (by kernel_rfl) fun K => ?_); simp only [go_sem, Int.cast_ofNat_Int, Nat.reduceEqDiff, reduceIte, Nat.reduceAdd, Nat.reduceMul, Nat.reduceLeDiff, Nat.reduceSub, Nat.reduceLT, Nat.zero_lt_succ, Int.reduceToNat, Int.reduceAdd, Int.reduceSub, Int.reduceMul, Int.reduceNeg, Int.reduceLT, Int.reduceLE, Int.reduceEq, Int.reduceBEq, Int.reduceBNe, Nat.reduceBEq, List.reduceReplicate, con16_f, con32_f, con33_f, con34_f, con16_c, con32_c, con33_c, con34_10, con34_11, con34_12, con34_13, con34_14, con34_15])
    | (with_reducible exact kp_nil)
    | (with_reducible exact Kp.refl _)
    | (with_reducible exact kp_to)
    | (with_reducible refine kp_cons ?_)
    | (with_reducible refine kp_arr ?_)
    | (with_reducible refine kp_app ?_)
    | ((with_reducible refine t_cond fun A B => ?_); simp only [go_sem, Int.cast_ofNat_Int, Nat.reduceEqDiff, reduceIte, Nat.reduceAdd, Nat.reduceMul, Nat.reduceLeDiff, Nat.reduceSub, Nat.reduceLT, Nat.zero_lt_succ, Int.reduceToNat, Int.reduceAdd, Int.reduceSub, Int.reduceMul, Int.reduceNeg, Int.reduceLT, Int.reduceLE, Int.reduceEq, Int.reduceBEq, Int.reduceBNe, Nat.reduceBEq, List.reduceReplicate, con16_f, con32_f, con33_f, con34_f, con16_c, con32_c, con33_c, con34_10, con34_11, con34_12, con34_13, con34_14, con34_15]; first | (with_reducible refine A.h ?_) | (with_reducible refine B.h ?_) | refine And.intro (fun hc => A.h ?_) (fun hc => B.h ?_))
    | simp only [thenQ_n, thenQ_r, thenQ_e, blockQ_n, blockQ_r, blockQ_e, scopeQ_n, scopeQ_r, scopeQ_e, Nat.reduceEqDiff, reduceIte]
    | (with_reducible refine And.intro ?_ ?_)
    | with_reducible intro vr)
  all_goals try (intros; (try simp only [Bool.and_eq_true, Bool.or_eq_true, Bool.not_eq_true', decide_eq_true_eq, decide_eq_false_iff_not, beq_iff_eq, bne_iff_ne, ne_eq, inI64, List.length_append] at *) <;> omega)
  refine end_ret rfl ?_
  simp only [fin, go_sem, Int.cast_ofNat_Int, Nat.reduceEqDiff, reduceIte, Nat.reduceAdd, Nat.reduceMul, Nat.reduceLeDiff, Nat.reduceSub, Nat.reduceLT, Nat.zero_lt_succ, Int.reduceToNat, Int.reduceAdd, Int.reduceSub, Int.reduceMul, Int.reduceNeg, Int.reduceLT, Int.reduceLE, Int.reduceEq, Int.reduceBEq, Int.reduceBNe, Nat.reduceBEq, List.reduceReplicate, vS]
  exact LeA.refl _
set_option maxHeartbeats 1000000 in
theorem v26_11 {a b : Int} (h0 : el a) (h1 : el b) : PC Try.prog 26 [.lit (.string (⟨#[108, 101]⟩ : ByteArray)), .sl false 1 [.lit (.int .i64 a), .lit (.int .i64 b)]] (.lit (.int .i64 (vS 11 [a, b]))) := by
  refine pc_of E5_ok mixed (fun _ => [0, 1, 4, 5, 6, 16, 26, 36, 46, 51, 67, 77, 87, 94, 105, 111, 120, 126, 135]) Try.func26 rfl (by kernel_rfl) (Nat.le_of_ble_eq_true rfl) ?_
  simp only [initF_cons, initF_nil, Nat.reduceAdd]
  refine t_name fun KF => ?_
  unfold E5
  repeat' (first
    | with_reducible refine t_seq fun K => ?_
    | with_reducible refine t_block ?_
    | with_reducible refine t_scope ?_
    | with_reducible refine t_label ?_
    | with_reducible refine t_skip ?_
    | with_reducible refine t_exit ?_
    | with_reducible refine t_ret ?_
    | with_reducible refine t_k ?_
    | (with_reducible refine t_gF ?_)
    | ((first | with_reducible refine t_kE ?_ | with_reducible refine t_kD ?_ | with_reducible refine t_gS ?_ | with_reducible refine t_kL ?_ | (with_reducible refine t_kLE ?_ ?_; rotate_left) | with_reducible refine t_region fun K => ?_ | with_reducible refine t_draw (by kernel_rfl) fun K => ?_); simp only [go_sem, Int.cast_ofNat_Int, Nat.reduceEqDiff, reduceIte, Nat.reduceAdd, Nat.reduceMul, Nat.reduceLeDiff, Nat.reduceSub, Nat.reduceLT, Nat.zero_lt_succ, Int.reduceToNat, Int.reduceAdd, Int.reduceSub, Int.reduceMul, Int.reduceNeg, Int.reduceLT, Int.reduceLE, Int.reduceEq, Int.reduceBEq, Int.reduceBNe, Nat.reduceBEq, List.reduceReplicate, con16_f, con32_f, con33_f, con34_f, con16_c, con32_c, con33_c, con34_10, con34_11, con34_12, con34_13, con34_14, con34_15])
    | (with_reducible exact kp_nil)
    | (with_reducible exact Kp.refl _)
    | (with_reducible exact kp_to)
    | (with_reducible refine kp_cons ?_)
    | (with_reducible refine kp_arr ?_)
    | (with_reducible refine kp_app ?_)
    | ((with_reducible refine t_cond fun A B => ?_); simp only [go_sem, Int.cast_ofNat_Int, Nat.reduceEqDiff, reduceIte, Nat.reduceAdd, Nat.reduceMul, Nat.reduceLeDiff, Nat.reduceSub, Nat.reduceLT, Nat.zero_lt_succ, Int.reduceToNat, Int.reduceAdd, Int.reduceSub, Int.reduceMul, Int.reduceNeg, Int.reduceLT, Int.reduceLE, Int.reduceEq, Int.reduceBEq, Int.reduceBNe, Nat.reduceBEq, List.reduceReplicate, con16_f, con32_f, con33_f, con34_f, con16_c, con32_c, con33_c, con34_10, con34_11, con34_12, con34_13, con34_14, con34_15]; first | (with_reducible refine A.h ?_) | (with_reducible refine B.h ?_) | refine And.intro (fun hc => A.h ?_) (fun hc => B.h ?_))
    | simp only [thenQ_n, thenQ_r, thenQ_e, blockQ_n, blockQ_r, blockQ_e, scopeQ_n, scopeQ_r, scopeQ_e, Nat.reduceEqDiff, reduceIte]
    | (with_reducible refine And.intro ?_ ?_)
    | with_reducible intro vr)
  all_goals try (intros; (try simp only [Bool.and_eq_true, Bool.or_eq_true, Bool.not_eq_true', decide_eq_true_eq, decide_eq_false_iff_not, beq_iff_eq, bne_iff_ne, ne_eq, inI64, List.length_append] at *) <;> omega)
  refine end_ret rfl ?_
  simp only [fin, go_sem, Int.cast_ofNat_Int, Nat.reduceEqDiff, reduceIte, Nat.reduceAdd, Nat.reduceMul, Nat.reduceLeDiff, Nat.reduceSub, Nat.reduceLT, Nat.zero_lt_succ, Int.reduceToNat, Int.reduceAdd, Int.reduceSub, Int.reduceMul, Int.reduceNeg, Int.reduceLT, Int.reduceLE, Int.reduceEq, Int.reduceBEq, Int.reduceBNe, Nat.reduceBEq, List.reduceReplicate, vS]
  exact LeA.refl _
set_option maxHeartbeats 1000000 in
theorem v26_12 {a b : Int} (h0 : el a) (h1 : el b) : PC Try.prog 26 [.lit (.string (⟨#[103, 116]⟩ : ByteArray)), .sl false 1 [.lit (.int .i64 a), .lit (.int .i64 b)]] (.lit (.int .i64 (vS 12 [a, b]))) := by
  refine pc_of E5_ok mixed (fun _ => [0, 1, 4, 5, 6, 16, 26, 36, 46, 51, 67, 77, 87, 94, 105, 111, 120, 126, 135]) Try.func26 rfl (by kernel_rfl) (Nat.le_of_ble_eq_true rfl) ?_
  simp only [initF_cons, initF_nil, Nat.reduceAdd]
  refine t_name fun KF => ?_
  unfold E5
  repeat' (first
    | with_reducible refine t_seq fun K => ?_
    | with_reducible refine t_block ?_
    | with_reducible refine t_scope ?_
    | with_reducible refine t_label ?_
    | with_reducible refine t_skip ?_
    | with_reducible refine t_exit ?_
    | with_reducible refine t_ret ?_
    | with_reducible refine t_k ?_
    | (with_reducible refine t_gF ?_)
    | ((first | with_reducible refine t_kE ?_ | with_reducible refine t_kD ?_ | with_reducible refine t_gS ?_ | with_reducible refine t_kL ?_ | (with_reducible refine t_kLE ?_ ?_; rotate_left) | with_reducible refine t_region fun K => ?_ | with_reducible refine t_draw (by kernel_rfl) fun K => ?_); simp only [go_sem, Int.cast_ofNat_Int, Nat.reduceEqDiff, reduceIte, Nat.reduceAdd, Nat.reduceMul, Nat.reduceLeDiff, Nat.reduceSub, Nat.reduceLT, Nat.zero_lt_succ, Int.reduceToNat, Int.reduceAdd, Int.reduceSub, Int.reduceMul, Int.reduceNeg, Int.reduceLT, Int.reduceLE, Int.reduceEq, Int.reduceBEq, Int.reduceBNe, Nat.reduceBEq, List.reduceReplicate, con16_f, con32_f, con33_f, con34_f, con16_c, con32_c, con33_c, con34_10, con34_11, con34_12, con34_13, con34_14, con34_15])
    | (with_reducible exact kp_nil)
    | (with_reducible exact Kp.refl _)
    | (with_reducible exact kp_to)
    | (with_reducible refine kp_cons ?_)
    | (with_reducible refine kp_arr ?_)
    | (with_reducible refine kp_app ?_)
    | ((with_reducible refine t_cond fun A B => ?_); simp only [go_sem, Int.cast_ofNat_Int, Nat.reduceEqDiff, reduceIte, Nat.reduceAdd, Nat.reduceMul, Nat.reduceLeDiff, Nat.reduceSub, Nat.reduceLT, Nat.zero_lt_succ, Int.reduceToNat, Int.reduceAdd, Int.reduceSub, Int.reduceMul, Int.reduceNeg, Int.reduceLT, Int.reduceLE, Int.reduceEq, Int.reduceBEq, Int.reduceBNe, Nat.reduceBEq, List.reduceReplicate, con16_f, con32_f, con33_f, con34_f, con16_c, con32_c, con33_c, con34_10, con34_11, con34_12, con34_13, con34_14, con34_15]; first | (with_reducible refine A.h ?_) | (with_reducible refine B.h ?_) | refine And.intro (fun hc => A.h ?_) (fun hc => B.h ?_))
    | simp only [thenQ_n, thenQ_r, thenQ_e, blockQ_n, blockQ_r, blockQ_e, scopeQ_n, scopeQ_r, scopeQ_e, Nat.reduceEqDiff, reduceIte]
    | (with_reducible refine And.intro ?_ ?_)
    | with_reducible intro vr)
  all_goals try (intros; (try simp only [Bool.and_eq_true, Bool.or_eq_true, Bool.not_eq_true', decide_eq_true_eq, decide_eq_false_iff_not, beq_iff_eq, bne_iff_ne, ne_eq, inI64, List.length_append] at *) <;> omega)
  refine end_ret rfl ?_
  simp only [fin, go_sem, Int.cast_ofNat_Int, Nat.reduceEqDiff, reduceIte, Nat.reduceAdd, Nat.reduceMul, Nat.reduceLeDiff, Nat.reduceSub, Nat.reduceLT, Nat.zero_lt_succ, Int.reduceToNat, Int.reduceAdd, Int.reduceSub, Int.reduceMul, Int.reduceNeg, Int.reduceLT, Int.reduceLE, Int.reduceEq, Int.reduceBEq, Int.reduceBNe, Nat.reduceBEq, List.reduceReplicate, vS]
  exact LeA.refl _
set_option maxHeartbeats 1000000 in
theorem v26_13 {a b : Int} (h0 : el a) (h1 : el b) : PC Try.prog 26 [.lit (.string (⟨#[103, 101]⟩ : ByteArray)), .sl false 1 [.lit (.int .i64 a), .lit (.int .i64 b)]] (.lit (.int .i64 (vS 13 [a, b]))) := by
  refine pc_of E5_ok mixed (fun _ => [0, 1, 4, 5, 6, 16, 26, 36, 46, 51, 67, 77, 87, 94, 105, 111, 120, 126, 135]) Try.func26 rfl (by kernel_rfl) (Nat.le_of_ble_eq_true rfl) ?_
  simp only [initF_cons, initF_nil, Nat.reduceAdd]
  refine t_name fun KF => ?_
  unfold E5
  repeat' (first
    | with_reducible refine t_seq fun K => ?_
    | with_reducible refine t_block ?_
    | with_reducible refine t_scope ?_
    | with_reducible refine t_label ?_
    | with_reducible refine t_skip ?_
    | with_reducible refine t_exit ?_
    | with_reducible refine t_ret ?_
    | with_reducible refine t_k ?_
    | (with_reducible refine t_gF ?_)
    | ((first | with_reducible refine t_kE ?_ | with_reducible refine t_kD ?_ | with_reducible refine t_gS ?_ | with_reducible refine t_kL ?_ | (with_reducible refine t_kLE ?_ ?_; rotate_left) | with_reducible refine t_region fun K => ?_ | with_reducible refine t_draw (by kernel_rfl) fun K => ?_); simp only [go_sem, Int.cast_ofNat_Int, Nat.reduceEqDiff, reduceIte, Nat.reduceAdd, Nat.reduceMul, Nat.reduceLeDiff, Nat.reduceSub, Nat.reduceLT, Nat.zero_lt_succ, Int.reduceToNat, Int.reduceAdd, Int.reduceSub, Int.reduceMul, Int.reduceNeg, Int.reduceLT, Int.reduceLE, Int.reduceEq, Int.reduceBEq, Int.reduceBNe, Nat.reduceBEq, List.reduceReplicate, con16_f, con32_f, con33_f, con34_f, con16_c, con32_c, con33_c, con34_10, con34_11, con34_12, con34_13, con34_14, con34_15])
    | (with_reducible exact kp_nil)
    | (with_reducible exact Kp.refl _)
    | (with_reducible exact kp_to)
    | (with_reducible refine kp_cons ?_)
    | (with_reducible refine kp_arr ?_)
    | (with_reducible refine kp_app ?_)
    | ((with_reducible refine t_cond fun A B => ?_); simp only [go_sem, Int.cast_ofNat_Int, Nat.reduceEqDiff, reduceIte, Nat.reduceAdd, Nat.reduceMul, Nat.reduceLeDiff, Nat.reduceSub, Nat.reduceLT, Nat.zero_lt_succ, Int.reduceToNat, Int.reduceAdd, Int.reduceSub, Int.reduceMul, Int.reduceNeg, Int.reduceLT, Int.reduceLE, Int.reduceEq, Int.reduceBEq, Int.reduceBNe, Nat.reduceBEq, List.reduceReplicate, con16_f, con32_f, con33_f, con34_f, con16_c, con32_c, con33_c, con34_10, con34_11, con34_12, con34_13, con34_14, con34_15]; first | (with_reducible refine A.h ?_) | (with_reducible refine B.h ?_) | refine And.intro (fun hc => A.h ?_) (fun hc => B.h ?_))
    | simp only [thenQ_n, thenQ_r, thenQ_e, blockQ_n, blockQ_r, blockQ_e, scopeQ_n, scopeQ_r, scopeQ_e, Nat.reduceEqDiff, reduceIte]
    | (with_reducible refine And.intro ?_ ?_)
    | with_reducible intro vr)
  all_goals try (intros; (try simp only [Bool.and_eq_true, Bool.or_eq_true, Bool.not_eq_true', decide_eq_true_eq, decide_eq_false_iff_not, beq_iff_eq, bne_iff_ne, ne_eq, inI64, List.length_append] at *) <;> omega)
  refine end_ret rfl ?_
  simp only [fin, go_sem, Int.cast_ofNat_Int, Nat.reduceEqDiff, reduceIte, Nat.reduceAdd, Nat.reduceMul, Nat.reduceLeDiff, Nat.reduceSub, Nat.reduceLT, Nat.zero_lt_succ, Int.reduceToNat, Int.reduceAdd, Int.reduceSub, Int.reduceMul, Int.reduceNeg, Int.reduceLT, Int.reduceLE, Int.reduceEq, Int.reduceBEq, Int.reduceBNe, Nat.reduceBEq, List.reduceReplicate, vS]
  exact LeA.refl _
set_option maxHeartbeats 1000000 in
theorem v26_14 {a b : Int} (h0 : el a) (h1 : el b) : PC Try.prog 26 [.lit (.string (⟨#[101, 113]⟩ : ByteArray)), .sl false 1 [.lit (.int .i64 a), .lit (.int .i64 b)]] (.lit (.int .i64 (vS 14 [a, b]))) := by
  refine pc_of E5_ok mixed (fun _ => [0, 1, 4, 5, 6, 16, 26, 36, 46, 51, 67, 77, 87, 94, 105, 111, 120, 126, 135]) Try.func26 rfl (by kernel_rfl) (Nat.le_of_ble_eq_true rfl) ?_
  simp only [initF_cons, initF_nil, Nat.reduceAdd]
  refine t_name fun KF => ?_
  unfold E5
  repeat' (first
    | with_reducible refine t_seq fun K => ?_
    | with_reducible refine t_block ?_
    | with_reducible refine t_scope ?_
    | with_reducible refine t_label ?_
    | with_reducible refine t_skip ?_
    | with_reducible refine t_exit ?_
    | with_reducible refine t_ret ?_
    | with_reducible refine t_k ?_
    | (with_reducible refine t_gF ?_)
    | ((first | with_reducible refine t_kE ?_ | with_reducible refine t_kD ?_ | with_reducible refine t_gS ?_ | with_reducible refine t_kL ?_ | (with_reducible refine t_kLE ?_ ?_; rotate_left) | with_reducible refine t_region fun K => ?_ | with_reducible refine t_draw (by kernel_rfl) fun K => ?_); simp only [go_sem, Int.cast_ofNat_Int, Nat.reduceEqDiff, reduceIte, Nat.reduceAdd, Nat.reduceMul, Nat.reduceLeDiff, Nat.reduceSub, Nat.reduceLT, Nat.zero_lt_succ, Int.reduceToNat, Int.reduceAdd, Int.reduceSub, Int.reduceMul, Int.reduceNeg, Int.reduceLT, Int.reduceLE, Int.reduceEq, Int.reduceBEq, Int.reduceBNe, Nat.reduceBEq, List.reduceReplicate, con16_f, con32_f, con33_f, con34_f, con16_c, con32_c, con33_c, con34_10, con34_11, con34_12, con34_13, con34_14, con34_15])
    | (with_reducible exact kp_nil)
    | (with_reducible exact Kp.refl _)
    | (with_reducible exact kp_to)
    | (with_reducible refine kp_cons ?_)
    | (with_reducible refine kp_arr ?_)
    | (with_reducible refine kp_app ?_)
    | ((with_reducible refine t_cond fun A B => ?_); simp only [go_sem, Int.cast_ofNat_Int, Nat.reduceEqDiff, reduceIte, Nat.reduceAdd, Nat.reduceMul, Nat.reduceLeDiff, Nat.reduceSub, Nat.reduceLT, Nat.zero_lt_succ, Int.reduceToNat, Int.reduceAdd, Int.reduceSub, Int.reduceMul, Int.reduceNeg, Int.reduceLT, Int.reduceLE, Int.reduceEq, Int.reduceBEq, Int.reduceBNe, Nat.reduceBEq, List.reduceReplicate, con16_f, con32_f, con33_f, con34_f, con16_c, con32_c, con33_c, con34_10, con34_11, con34_12, con34_13, con34_14, con34_15]; first | (with_reducible refine A.h ?_) | (with_reducible refine B.h ?_) | refine And.intro (fun hc => A.h ?_) (fun hc => B.h ?_))
    | simp only [thenQ_n, thenQ_r, thenQ_e, blockQ_n, blockQ_r, blockQ_e, scopeQ_n, scopeQ_r, scopeQ_e, Nat.reduceEqDiff, reduceIte]
    | (with_reducible refine And.intro ?_ ?_)
    | with_reducible intro vr)
  all_goals try (intros; (try simp only [Bool.and_eq_true, Bool.or_eq_true, Bool.not_eq_true', decide_eq_true_eq, decide_eq_false_iff_not, beq_iff_eq, bne_iff_ne, ne_eq, inI64, List.length_append] at *) <;> omega)
  refine end_ret rfl ?_
  simp only [fin, go_sem, Int.cast_ofNat_Int, Nat.reduceEqDiff, reduceIte, Nat.reduceAdd, Nat.reduceMul, Nat.reduceLeDiff, Nat.reduceSub, Nat.reduceLT, Nat.zero_lt_succ, Int.reduceToNat, Int.reduceAdd, Int.reduceSub, Int.reduceMul, Int.reduceNeg, Int.reduceLT, Int.reduceLE, Int.reduceEq, Int.reduceBEq, Int.reduceBNe, Nat.reduceBEq, List.reduceReplicate, vS]
  exact LeA.refl _
set_option maxHeartbeats 1000000 in
theorem v26_15 {a b : Int} (h0 : el a) (h1 : el b) : PC Try.prog 26 [.lit (.string (⟨#[110, 101]⟩ : ByteArray)), .sl false 1 [.lit (.int .i64 a), .lit (.int .i64 b)]] (.lit (.int .i64 (vS 15 [a, b]))) := by
  refine pc_of E5_ok mixed (fun _ => [0, 1, 4, 5, 6, 16, 26, 36, 46, 51, 67, 77, 87, 94, 105, 111, 120, 126, 135]) Try.func26 rfl (by kernel_rfl) (Nat.le_of_ble_eq_true rfl) ?_
  simp only [initF_cons, initF_nil, Nat.reduceAdd]
  refine t_name fun KF => ?_
  unfold E5
  repeat' (first
    | with_reducible refine t_seq fun K => ?_
    | with_reducible refine t_block ?_
    | with_reducible refine t_scope ?_
    | with_reducible refine t_label ?_
    | with_reducible refine t_skip ?_
    | with_reducible refine t_exit ?_
    | with_reducible refine t_ret ?_
    | with_reducible refine t_k ?_
    | (with_reducible refine t_gF ?_)
    | ((first | with_reducible refine t_kE ?_ | with_reducible refine t_kD ?_ | with_reducible refine t_gS ?_ | with_reducible refine t_kL ?_ | (with_reducible refine t_kLE ?_ ?_; rotate_left) | with_reducible refine t_region fun K => ?_ | with_reducible refine t_draw (by kernel_rfl) fun K => ?_); simp only [go_sem, Int.cast_ofNat_Int, Nat.reduceEqDiff, reduceIte, Nat.reduceAdd, Nat.reduceMul, Nat.reduceLeDiff, Nat.reduceSub, Nat.reduceLT, Nat.zero_lt_succ, Int.reduceToNat, Int.reduceAdd, Int.reduceSub, Int.reduceMul, Int.reduceNeg, Int.reduceLT, Int.reduceLE, Int.reduceEq, Int.reduceBEq, Int.reduceBNe, Nat.reduceBEq, List.reduceReplicate, con16_f, con32_f, con33_f, con34_f, con16_c, con32_c, con33_c, con34_10, con34_11, con34_12, con34_13, con34_14, con34_15])
    | (with_reducible exact kp_nil)
    | (with_reducible exact Kp.refl _)
    | (with_reducible exact kp_to)
    | (with_reducible refine kp_cons ?_)
    | (with_reducible refine kp_arr ?_)
    | (with_reducible refine kp_app ?_)
    | ((with_reducible refine t_cond fun A B => ?_); simp only [go_sem, Int.cast_ofNat_Int, Nat.reduceEqDiff, reduceIte, Nat.reduceAdd, Nat.reduceMul, Nat.reduceLeDiff, Nat.reduceSub, Nat.reduceLT, Nat.zero_lt_succ, Int.reduceToNat, Int.reduceAdd, Int.reduceSub, Int.reduceMul, Int.reduceNeg, Int.reduceLT, Int.reduceLE, Int.reduceEq, Int.reduceBEq, Int.reduceBNe, Nat.reduceBEq, List.reduceReplicate, con16_f, con32_f, con33_f, con34_f, con16_c, con32_c, con33_c, con34_10, con34_11, con34_12, con34_13, con34_14, con34_15]; first | (with_reducible refine A.h ?_) | (with_reducible refine B.h ?_) | refine And.intro (fun hc => A.h ?_) (fun hc => B.h ?_))
    | simp only [thenQ_n, thenQ_r, thenQ_e, blockQ_n, blockQ_r, blockQ_e, scopeQ_n, scopeQ_r, scopeQ_e, Nat.reduceEqDiff, reduceIte]
    | (with_reducible refine And.intro ?_ ?_)
    | with_reducible intro vr)
  all_goals try (intros; (try simp only [Bool.and_eq_true, Bool.or_eq_true, Bool.not_eq_true', decide_eq_true_eq, decide_eq_false_iff_not, beq_iff_eq, bne_iff_ne, ne_eq, inI64, List.length_append] at *) <;> omega)
  refine end_ret rfl ?_
  simp only [fin, go_sem, Int.cast_ofNat_Int, Nat.reduceEqDiff, reduceIte, Nat.reduceAdd, Nat.reduceMul, Nat.reduceLeDiff, Nat.reduceSub, Nat.reduceLT, Nat.zero_lt_succ, Int.reduceToNat, Int.reduceAdd, Int.reduceSub, Int.reduceMul, Int.reduceNeg, Int.reduceLT, Int.reduceLE, Int.reduceEq, Int.reduceBEq, Int.reduceBNe, Nat.reduceBEq, List.reduceReplicate, vS]
  exact LeA.refl _
set_option maxHeartbeats 1000000 in
theorem v26_16 {a b : Int} (h0 : a = 0 ∨ a = 1) (h1 : b = 0 ∨ b = 1) : PC Try.prog 26 [.lit (.string (⟨#[97, 110, 100]⟩ : ByteArray)), .sl false 1 [.lit (.int .i64 a), .lit (.int .i64 b)]] (.lit (.int .i64 (vS 16 [a, b]))) := by
  refine pc_of E5_ok mixed (fun _ => [0, 1, 4, 5, 6, 16, 26, 36, 46, 51, 67, 77, 87, 94, 105, 111, 120, 126, 135]) Try.func26 rfl (by kernel_rfl) (Nat.le_of_ble_eq_true rfl) ?_
  simp only [initF_cons, initF_nil, Nat.reduceAdd]
  refine t_name fun KF => ?_
  unfold E5
  repeat' (first
    | with_reducible refine t_seq fun K => ?_
    | with_reducible refine t_block ?_
    | with_reducible refine t_scope ?_
    | with_reducible refine t_label ?_
    | with_reducible refine t_skip ?_
    | with_reducible refine t_exit ?_
    | with_reducible refine t_ret ?_
    | with_reducible refine t_k ?_
    | (with_reducible refine t_gF ?_)
    | ((first | with_reducible refine t_kE ?_ | with_reducible refine t_kD ?_ | with_reducible refine t_gS ?_ | with_reducible refine t_kL ?_ | (with_reducible refine t_kLE ?_ ?_; rotate_left) | with_reducible refine t_region fun K => ?_ | with_reducible refine t_draw (by kernel_rfl) fun K => ?_); simp only [go_sem, Int.cast_ofNat_Int, Nat.reduceEqDiff, reduceIte, Nat.reduceAdd, Nat.reduceMul, Nat.reduceLeDiff, Nat.reduceSub, Nat.reduceLT, Nat.zero_lt_succ, Int.reduceToNat, Int.reduceAdd, Int.reduceSub, Int.reduceMul, Int.reduceNeg, Int.reduceLT, Int.reduceLE, Int.reduceEq, Int.reduceBEq, Int.reduceBNe, Nat.reduceBEq, List.reduceReplicate, con16_f, con32_f, con33_f, con34_f, con16_c, con32_c, con33_c, con34_10, con34_11, con34_12, con34_13, con34_14, con34_15])
    | (with_reducible exact kp_nil)
    | (with_reducible exact Kp.refl _)
    | (with_reducible exact kp_to)
    | (with_reducible refine kp_cons ?_)
    | (with_reducible refine kp_arr ?_)
    | (with_reducible refine kp_app ?_)
    | ((with_reducible refine t_cond fun A B => ?_); simp only [go_sem, Int.cast_ofNat_Int, Nat.reduceEqDiff, reduceIte, Nat.reduceAdd, Nat.reduceMul, Nat.reduceLeDiff, Nat.reduceSub, Nat.reduceLT, Nat.zero_lt_succ, Int.reduceToNat, Int.reduceAdd, Int.reduceSub, Int.reduceMul, Int.reduceNeg, Int.reduceLT, Int.reduceLE, Int.reduceEq, Int.reduceBEq, Int.reduceBNe, Nat.reduceBEq, List.reduceReplicate, con16_f, con32_f, con33_f, con34_f, con16_c, con32_c, con33_c, con34_10, con34_11, con34_12, con34_13, con34_14, con34_15]; first | (with_reducible refine A.h ?_) | (with_reducible refine B.h ?_) | refine And.intro (fun hc => A.h ?_) (fun hc => B.h ?_))
    | simp only [thenQ_n, thenQ_r, thenQ_e, blockQ_n, blockQ_r, blockQ_e, scopeQ_n, scopeQ_r, scopeQ_e, Nat.reduceEqDiff, reduceIte]
    | (with_reducible refine And.intro ?_ ?_)
    | with_reducible intro vr)
  all_goals try (intros; (try simp only [Bool.and_eq_true, Bool.or_eq_true, Bool.not_eq_true', decide_eq_true_eq, decide_eq_false_iff_not, beq_iff_eq, bne_iff_ne, ne_eq, inI64, List.length_append] at *) <;> omega)
  refine end_ret rfl ?_
  simp only [fin, go_sem, Int.cast_ofNat_Int, Nat.reduceEqDiff, reduceIte, Nat.reduceAdd, Nat.reduceMul, Nat.reduceLeDiff, Nat.reduceSub, Nat.reduceLT, Nat.zero_lt_succ, Int.reduceToNat, Int.reduceAdd, Int.reduceSub, Int.reduceMul, Int.reduceNeg, Int.reduceLT, Int.reduceLE, Int.reduceEq, Int.reduceBEq, Int.reduceBNe, Nat.reduceBEq, List.reduceReplicate, vS]
  exact LeA.refl _
set_option maxHeartbeats 1000000 in
theorem v26_17 {a b : Int} (h0 : a = 0 ∨ a = 1) (h1 : b = 0 ∨ b = 1) : PC Try.prog 26 [.lit (.string (⟨#[111, 114]⟩ : ByteArray)), .sl false 1 [.lit (.int .i64 a), .lit (.int .i64 b)]] (.lit (.int .i64 (vS 17 [a, b]))) := by
  refine pc_of E5_ok mixed (fun _ => [0, 1, 4, 5, 6, 16, 26, 36, 46, 51, 67, 77, 87, 94, 105, 111, 120, 126, 135]) Try.func26 rfl (by kernel_rfl) (Nat.le_of_ble_eq_true rfl) ?_
  simp only [initF_cons, initF_nil, Nat.reduceAdd]
  refine t_name fun KF => ?_
  unfold E5
  repeat' (first
    | with_reducible refine t_seq fun K => ?_
    | with_reducible refine t_block ?_
    | with_reducible refine t_scope ?_
    | with_reducible refine t_label ?_
    | with_reducible refine t_skip ?_
    | with_reducible refine t_exit ?_
    | with_reducible refine t_ret ?_
    | with_reducible refine t_k ?_
    | (with_reducible refine t_gF ?_)
    | ((first | with_reducible refine t_kE ?_ | with_reducible refine t_kD ?_ | with_reducible refine t_gS ?_ | with_reducible refine t_kL ?_ | (with_reducible refine t_kLE ?_ ?_; rotate_left) | with_reducible refine t_region fun K => ?_ | with_reducible refine t_draw (by kernel_rfl) fun K => ?_); simp only [go_sem, Int.cast_ofNat_Int, Nat.reduceEqDiff, reduceIte, Nat.reduceAdd, Nat.reduceMul, Nat.reduceLeDiff, Nat.reduceSub, Nat.reduceLT, Nat.zero_lt_succ, Int.reduceToNat, Int.reduceAdd, Int.reduceSub, Int.reduceMul, Int.reduceNeg, Int.reduceLT, Int.reduceLE, Int.reduceEq, Int.reduceBEq, Int.reduceBNe, Nat.reduceBEq, List.reduceReplicate, con16_f, con32_f, con33_f, con34_f, con16_c, con32_c, con33_c, con34_10, con34_11, con34_12, con34_13, con34_14, con34_15])
    | (with_reducible exact kp_nil)
    | (with_reducible exact Kp.refl _)
    | (with_reducible exact kp_to)
    | (with_reducible refine kp_cons ?_)
    | (with_reducible refine kp_arr ?_)
    | (with_reducible refine kp_app ?_)
    | ((with_reducible refine t_cond fun A B => ?_); simp only [go_sem, Int.cast_ofNat_Int, Nat.reduceEqDiff, reduceIte, Nat.reduceAdd, Nat.reduceMul, Nat.reduceLeDiff, Nat.reduceSub, Nat.reduceLT, Nat.zero_lt_succ, Int.reduceToNat, Int.reduceAdd, Int.reduceSub, Int.reduceMul, Int.reduceNeg, Int.reduceLT, Int.reduceLE, Int.reduceEq, Int.reduceBEq, Int.reduceBNe, Nat.reduceBEq, List.reduceReplicate, con16_f, con32_f, con33_f, con34_f, con16_c, con32_c, con33_c, con34_10, con34_11, con34_12, con34_13, con34_14, con34_15]; first | (with_reducible refine A.h ?_) | (with_reducible refine B.h ?_) | refine And.intro (fun hc => A.h ?_) (fun hc => B.h ?_))
    | simp only [thenQ_n, thenQ_r, thenQ_e, blockQ_n, blockQ_r, blockQ_e, scopeQ_n, scopeQ_r, scopeQ_e, Nat.reduceEqDiff, reduceIte]
    | (with_reducible refine And.intro ?_ ?_)
    | with_reducible intro vr)
  all_goals try (intros; (try simp only [Bool.and_eq_true, Bool.or_eq_true, Bool.not_eq_true', decide_eq_true_eq, decide_eq_false_iff_not, beq_iff_eq, bne_iff_ne, ne_eq, inI64, List.length_append] at *) <;> omega)
  refine end_ret rfl ?_
  simp only [fin, go_sem, Int.cast_ofNat_Int, Nat.reduceEqDiff, reduceIte, Nat.reduceAdd, Nat.reduceMul, Nat.reduceLeDiff, Nat.reduceSub, Nat.reduceLT, Nat.zero_lt_succ, Int.reduceToNat, Int.reduceAdd, Int.reduceSub, Int.reduceMul, Int.reduceNeg, Int.reduceLT, Int.reduceLE, Int.reduceEq, Int.reduceBEq, Int.reduceBNe, Nat.reduceBEq, List.reduceReplicate, vS]
  exact LeA.refl _
set_option maxHeartbeats 1000000 in
theorem v26_18 {a b : Int} (h0 : a = 0 ∨ a = 1) (h1 : b = 0 ∨ b = 1) : PC Try.prog 26 [.lit (.string (⟨#[120, 111, 114]⟩ : ByteArray)), .sl false 1 [.lit (.int .i64 a), .lit (.int .i64 b)]] (.lit (.int .i64 (vS 18 [a, b]))) := by
  rcases h0 with rfl | rfl <;> rcases h1 with rfl | rfl
  · skip
    refine pc_of E5_ok mixed (fun _ => [0, 1, 4, 5, 6, 16, 26, 36, 46, 51, 67, 77, 87, 94, 105, 111, 120, 126, 135]) Try.func26 rfl (by kernel_rfl) (Nat.le_of_ble_eq_true rfl) ?_
    simp only [initF_cons, initF_nil, Nat.reduceAdd]
    refine t_name fun KF => ?_
    unfold E5
    repeat' (first
      | with_reducible refine t_seq fun K => ?_
      | with_reducible refine t_block ?_
      | with_reducible refine t_scope ?_
      | with_reducible refine t_label ?_
      | with_reducible refine t_skip ?_
      | with_reducible refine t_exit ?_
      | with_reducible refine t_ret ?_
      | with_reducible refine t_k ?_
      | (with_reducible refine t_gF ?_)
      | ((first | with_reducible refine t_kE ?_ | with_reducible refine t_kD ?_ | with_reducible refine t_gS ?_ | with_reducible refine t_kL ?_ | (with_reducible refine t_kLE ?_ ?_; rotate_left) | with_reducible refine t_region fun K => ?_ | with_reducible refine t_draw (by kernel_rfl) fun K => ?_); simp only [go_sem, Int.cast_ofNat_Int, Nat.reduceEqDiff, reduceIte, Nat.reduceAdd, Nat.reduceMul, Nat.reduceLeDiff, Nat.reduceSub, Nat.reduceLT, Nat.zero_lt_succ, Int.reduceToNat, Int.reduceAdd, Int.reduceSub, Int.reduceMul, Int.reduceNeg, Int.reduceLT, Int.reduceLE, Int.reduceEq, Int.reduceBEq, Int.reduceBNe, Nat.reduceBEq, List.reduceReplicate, con16_f, con32_f, con33_f, con34_f, con16_c, con32_c, con33_c, con34_10, con34_11, con34_12, con34_13, con34_14, con34_15])
      | (with_reducible exact kp_nil)
      | (with_reducible exact Kp.refl _)
      | (with_reducible exact kp_to)
      | (with_reducible refine kp_cons ?_)
      | (with_reducible refine kp_arr ?_)
      | (with_reducible refine kp_app ?_)
      | ((with_reducible refine t_cond fun A B => ?_); simp only [go_sem, Int.cast_ofNat_Int, Nat.reduceEqDiff, reduceIte, Nat.reduceAdd, Nat.reduceMul, Nat.reduceLeDiff, Nat.reduceSub, Nat.reduceLT, Nat.zero_lt_succ, Int.reduceToNat, Int.reduceAdd, Int.reduceSub, Int.reduceMul, Int.reduceNeg, Int.reduceLT, Int.reduceLE, Int.reduceEq, Int.reduceBEq, Int.reduceBNe, Nat.reduceBEq, List.reduceReplicate, con16_f, con32_f, con33_f, con34_f, con16_c, con32_c, con33_c, con34_10, con34_11, con34_12, con34_13, con34_14, con34_15]; first | (with_reducible refine A.h ?_) | (with_reducible refine B.h ?_) | refine And.intro (fun hc => A.h ?_) (fun hc => B.h ?_))
      | simp only [thenQ_n, thenQ_r, thenQ_e, blockQ_n, blockQ_r, blockQ_e, scopeQ_n, scopeQ_r, scopeQ_e, Nat.reduceEqDiff, reduceIte]
      | (with_reducible refine And.intro ?_ ?_)
      | with_reducible intro vr)
    all_goals try (intros; (try simp only [Bool.and_eq_true, Bool.or_eq_true, Bool.not_eq_true', decide_eq_true_eq, decide_eq_false_iff_not, beq_iff_eq, bne_iff_ne, ne_eq, inI64, List.length_append] at *) <;> omega)
    refine end_ret rfl ?_
    simp only [fin, go_sem, Int.cast_ofNat_Int, Nat.reduceEqDiff, reduceIte, Nat.reduceAdd, Nat.reduceMul, Nat.reduceLeDiff, Nat.reduceSub, Nat.reduceLT, Nat.zero_lt_succ, Int.reduceToNat, Int.reduceAdd, Int.reduceSub, Int.reduceMul, Int.reduceNeg, Int.reduceLT, Int.reduceLE, Int.reduceEq, Int.reduceBEq, Int.reduceBNe, Nat.reduceBEq, List.reduceReplicate, vS]
    exact LeA.refl _
  · skip
    refine pc_of E5_ok mixed (fun _ => [0, 1, 4, 5, 6, 16, 26, 36, 46, 51, 67, 77, 87, 94, 105, 111, 120, 126, 135]) Try.func26 rfl (by kernel_rfl) (Nat.le_of_ble_eq_true rfl) ?_
    simp only [initF_cons, initF_nil, Nat.reduceAdd]
    refine t_name fun KF => ?_
    unfold E5
    repeat' (first
      | with_reducible refine t_seq fun K => ?_
      | with_reducible refine t_block ?_
      | with_reducible refine t_scope ?_
      | with_reducible refine t_label ?_
      | with_reducible refine t_skip ?_
      | with_reducible refine t_exit ?_
      | with_reducible refine t_ret ?_
      | with_reducible refine t_k ?_
      | (with_reducible refine t_gF ?_)
      | ((first | with_reducible refine t_kE ?_ | with_reducible refine t_kD ?_ | with_reducible refine t_gS ?_ | with_reducible refine t_kL ?_ | (with_reducible refine t_kLE ?_ ?_; rotate_left) | with_reducible refine t_region fun K => ?_ | with_reducible refine t_draw (by kernel_rfl) fun K => ?_); simp only [go_sem, Int.cast_ofNat_Int, Nat.reduceEqDiff, reduceIte, Nat.reduceAdd, Nat.reduceMul, Nat.reduceLeDiff, Nat.reduceSub, Nat.reduceLT, Nat.zero_lt_succ, Int.reduceToNat, Int.reduceAdd, Int.reduceSub, Int.reduceMul, Int.reduceNeg, Int.reduceLT, Int.reduceLE, Int.reduceEq, Int.reduceBEq, Int.reduceBNe, Nat.reduceBEq, List.reduceReplicate, con16_f, con32_f, con33_f, con34_f, con16_c, con32_c, con33_c, con34_10, con34_11, con34_12, con34_13, con34_14, con34_15])
      | (with_reducible exact kp_nil)
      | (with_reducible exact Kp.refl _)
      | (with_reducible exact kp_to)
      | (with_reducible refine kp_cons ?_)
      | (with_reducible refine kp_arr ?_)
      | (with_reducible refine kp_app ?_)
      | ((with_reducible refine t_cond fun A B => ?_); simp only [go_sem, Int.cast_ofNat_Int, Nat.reduceEqDiff, reduceIte, Nat.reduceAdd, Nat.reduceMul, Nat.reduceLeDiff, Nat.reduceSub, Nat.reduceLT, Nat.zero_lt_succ, Int.reduceToNat, Int.reduceAdd, Int.reduceSub, Int.reduceMul, Int.reduceNeg, Int.reduceLT, Int.reduceLE, Int.reduceEq, Int.reduceBEq, Int.reduceBNe, Nat.reduceBEq, List.reduceReplicate, con16_f, con32_f, con33_f, con34_f, con16_c, con32_c, con33_c, con34_10, con34_11, con34_12, con34_13, con34_14, con34_15]; first | (with_reducible refine A.h ?_) | (with_reducible refine B.h ?_) | refine And.intro (fun hc => A.h ?_) (fun hc => B.h ?_))
      | simp only [thenQ_n, thenQ_r, thenQ_e, blockQ_n, blockQ_r, blockQ_e, scopeQ_n, scopeQ_r, scopeQ_e, Nat.reduceEqDiff, reduceIte]
      | (with_reducible refine And.intro ?_ ?_)
      | with_reducible intro vr)
    all_goals try (intros; (try simp only [Bool.and_eq_true, Bool.or_eq_true, Bool.not_eq_true', decide_eq_true_eq, decide_eq_false_iff_not, beq_iff_eq, bne_iff_ne, ne_eq, inI64, List.length_append] at *) <;> omega)
    refine end_ret rfl ?_
    simp only [fin, go_sem, Int.cast_ofNat_Int, Nat.reduceEqDiff, reduceIte, Nat.reduceAdd, Nat.reduceMul, Nat.reduceLeDiff, Nat.reduceSub, Nat.reduceLT, Nat.zero_lt_succ, Int.reduceToNat, Int.reduceAdd, Int.reduceSub, Int.reduceMul, Int.reduceNeg, Int.reduceLT, Int.reduceLE, Int.reduceEq, Int.reduceBEq, Int.reduceBNe, Nat.reduceBEq, List.reduceReplicate, vS]
    exact LeA.refl _
  · skip
    refine pc_of E5_ok mixed (fun _ => [0, 1, 4, 5, 6, 16, 26, 36, 46, 51, 67, 77, 87, 94, 105, 111, 120, 126, 135]) Try.func26 rfl (by kernel_rfl) (Nat.le_of_ble_eq_true rfl) ?_
    simp only [initF_cons, initF_nil, Nat.reduceAdd]
    refine t_name fun KF => ?_
    unfold E5
    repeat' (first
      | with_reducible refine t_seq fun K => ?_
      | with_reducible refine t_block ?_
      | with_reducible refine t_scope ?_
      | with_reducible refine t_label ?_
      | with_reducible refine t_skip ?_
      | with_reducible refine t_exit ?_
      | with_reducible refine t_ret ?_
      | with_reducible refine t_k ?_
      | (with_reducible refine t_gF ?_)
      | ((first | with_reducible refine t_kE ?_ | with_reducible refine t_kD ?_ | with_reducible refine t_gS ?_ | with_reducible refine t_kL ?_ | (with_reducible refine t_kLE ?_ ?_; rotate_left) | with_reducible refine t_region fun K => ?_ | with_reducible refine t_draw (by kernel_rfl) fun K => ?_); simp only [go_sem, Int.cast_ofNat_Int, Nat.reduceEqDiff, reduceIte, Nat.reduceAdd, Nat.reduceMul, Nat.reduceLeDiff, Nat.reduceSub, Nat.reduceLT, Nat.zero_lt_succ, Int.reduceToNat, Int.reduceAdd, Int.reduceSub, Int.reduceMul, Int.reduceNeg, Int.reduceLT, Int.reduceLE, Int.reduceEq, Int.reduceBEq, Int.reduceBNe, Nat.reduceBEq, List.reduceReplicate, con16_f, con32_f, con33_f, con34_f, con16_c, con32_c, con33_c, con34_10, con34_11, con34_12, con34_13, con34_14, con34_15])
      | (with_reducible exact kp_nil)
      | (with_reducible exact Kp.refl _)
      | (with_reducible exact kp_to)
      | (with_reducible refine kp_cons ?_)
      | (with_reducible refine kp_arr ?_)
      | (with_reducible refine kp_app ?_)
      | ((with_reducible refine t_cond fun A B => ?_); simp only [go_sem, Int.cast_ofNat_Int, Nat.reduceEqDiff, reduceIte, Nat.reduceAdd, Nat.reduceMul, Nat.reduceLeDiff, Nat.reduceSub, Nat.reduceLT, Nat.zero_lt_succ, Int.reduceToNat, Int.reduceAdd, Int.reduceSub, Int.reduceMul, Int.reduceNeg, Int.reduceLT, Int.reduceLE, Int.reduceEq, Int.reduceBEq, Int.reduceBNe, Nat.reduceBEq, List.reduceReplicate, con16_f, con32_f, con33_f, con34_f, con16_c, con32_c, con33_c, con34_10, con34_11, con34_12, con34_13, con34_14, con34_15]; first | (with_reducible refine A.h ?_) | (with_reducible refine B.h ?_) | refine And.intro (fun hc => A.h ?_) (fun hc => B.h ?_))
      | simp only [thenQ_n, thenQ_r, thenQ_e, blockQ_n, blockQ_r, blockQ_e, scopeQ_n, scopeQ_r, scopeQ_e, Nat.reduceEqDiff, reduceIte]
      | (with_reducible refine And.intro ?_ ?_)
      | with_reducible intro vr)
    all_goals try (intros; (try simp only [Bool.and_eq_true, Bool.or_eq_true, Bool.not_eq_true', decide_eq_true_eq, decide_eq_false_iff_not, beq_iff_eq, bne_iff_ne, ne_eq, inI64, List.length_append] at *) <;> omega)
    refine end_ret rfl ?_
    simp only [fin, go_sem, Int.cast_ofNat_Int, Nat.reduceEqDiff, reduceIte, Nat.reduceAdd, Nat.reduceMul, Nat.reduceLeDiff, Nat.reduceSub, Nat.reduceLT, Nat.zero_lt_succ, Int.reduceToNat, Int.reduceAdd, Int.reduceSub, Int.reduceMul, Int.reduceNeg, Int.reduceLT, Int.reduceLE, Int.reduceEq, Int.reduceBEq, Int.reduceBNe, Nat.reduceBEq, List.reduceReplicate, vS]
    exact LeA.refl _
  · skip
    refine pc_of E5_ok mixed (fun _ => [0, 1, 4, 5, 6, 16, 26, 36, 46, 51, 67, 77, 87, 94, 105, 111, 120, 126, 135]) Try.func26 rfl (by kernel_rfl) (Nat.le_of_ble_eq_true rfl) ?_
    simp only [initF_cons, initF_nil, Nat.reduceAdd]
    refine t_name fun KF => ?_
    unfold E5
    repeat' (first
      | with_reducible refine t_seq fun K => ?_
      | with_reducible refine t_block ?_
      | with_reducible refine t_scope ?_
      | with_reducible refine t_label ?_
      | with_reducible refine t_skip ?_
      | with_reducible refine t_exit ?_
      | with_reducible refine t_ret ?_
      | with_reducible refine t_k ?_
      | (with_reducible refine t_gF ?_)
      | ((first | with_reducible refine t_kE ?_ | with_reducible refine t_kD ?_ | with_reducible refine t_gS ?_ | with_reducible refine t_kL ?_ | (with_reducible refine t_kLE ?_ ?_; rotate_left) | with_reducible refine t_region fun K => ?_ | with_reducible refine t_draw (by kernel_rfl) fun K => ?_); simp only [go_sem, Int.cast_ofNat_Int, Nat.reduceEqDiff, reduceIte, Nat.reduceAdd, Nat.reduceMul, Nat.reduceLeDiff, Nat.reduceSub, Nat.reduceLT, Nat.zero_lt_succ, Int.reduceToNat, Int.reduceAdd, Int.reduceSub, Int.reduceMul, Int.reduceNeg, Int.reduceLT, Int.reduceLE, Int.reduceEq, Int.reduceBEq, Int.reduceBNe, Nat.reduceBEq, List.reduceReplicate, con16_f, con32_f, con33_f, con34_f, con16_c, con32_c, con33_c, con34_10, con34_11, con34_12, con34_13, con34_14, con34_15])
      | (with_reducible exact kp_nil)
      | (with_reducible exact Kp.refl _)
      | (with_reducible exact kp_to)
      | (with_reducible refine kp_cons ?_)
      | (with_reducible refine kp_arr ?_)
      | (with_reducible refine kp_app ?_)
      | ((with_reducible refine t_cond fun A B => ?_); simp only [go_sem, Int.cast_ofNat_Int, Nat.reduceEqDiff, reduceIte, Nat.reduceAdd, Nat.reduceMul, Nat.reduceLeDiff, Nat.reduceSub, Nat.reduceLT, Nat.zero_lt_succ, Int.reduceToNat, Int.reduceAdd, Int.reduceSub, Int.reduceMul, Int.reduceNeg, Int.reduceLT, Int.reduceLE, Int.reduceEq, Int.reduceBEq, Int.reduceBNe, Nat.reduceBEq, List.reduceReplicate, con16_f, con32_f, con33_f, con34_f, con16_c, con32_c, con33_c, con34_10, con34_11, con34_12, con34_13, con34_14, con34_15]; first | (with_reducible refine A.h ?_) | (with_reducible refine B.h ?_) | refine And.intro (fun hc => A.h ?_) (fun hc => B.h ?_))
      | simp only [thenQ_n, thenQ_r, thenQ_e, blockQ_n, blockQ_r, blockQ_e, scopeQ_n, scopeQ_r, scopeQ_e, Nat.reduceEqDiff, reduceIte]
      | (with_reducible refine And.intro ?_ ?_)
      | with_reducible intro vr)
    all_goals try (intros; (try simp only [Bool.and_eq_true, Bool.or_eq_true, Bool.not_eq_true', decide_eq_true_eq, decide_eq_false_iff_not, beq_iff_eq, bne_iff_ne, ne_eq, inI64, List.length_append] at *) <;> omega)
    refine end_ret rfl ?_
    simp only [fin, go_sem, Int.cast_ofNat_Int, Nat.reduceEqDiff, reduceIte, Nat.reduceAdd, Nat.reduceMul, Nat.reduceLeDiff, Nat.reduceSub, Nat.reduceLT, Nat.zero_lt_succ, Int.reduceToNat, Int.reduceAdd, Int.reduceSub, Int.reduceMul, Int.reduceNeg, Int.reduceLT, Int.reduceLE, Int.reduceEq, Int.reduceBEq, Int.reduceBNe, Nat.reduceBEq, List.reduceReplicate, vS]
    exact LeA.refl _
set_option maxHeartbeats 1000000 in
theorem v26_19 {a : Int} (h0 : a = 0 ∨ a = 1) : PC Try.prog 26 [.lit (.string (⟨#[110, 111, 116]⟩ : ByteArray)), .sl false 1 [.lit (.int .i64 a)]] (.lit (.int .i64 (vS 19 [a]))) := by
  have h0' : -1 ≤ a ∧ a ≤ 1 := by omega
  refine pc_of E5_ok mixed (fun _ => [0, 1, 4, 5, 6, 16, 26, 36, 46, 51, 67, 77, 87, 94, 105, 111, 120, 126, 135]) Try.func26 rfl (by kernel_rfl) (Nat.le_of_ble_eq_true rfl) ?_
  simp only [initF_cons, initF_nil, Nat.reduceAdd]
  refine t_name fun KF => ?_
  unfold E5
  repeat' (first
    | with_reducible refine t_seq fun K => ?_
    | with_reducible refine t_block ?_
    | with_reducible refine t_scope ?_
    | with_reducible refine t_label ?_
    | with_reducible refine t_skip ?_
    | with_reducible refine t_exit ?_
    | with_reducible refine t_ret ?_
    | with_reducible refine t_k ?_
    | (with_reducible refine t_gF ?_)
    | ((first | with_reducible refine t_kE ?_ | with_reducible refine t_kD ?_ | with_reducible refine t_gS ?_ | with_reducible refine t_kL ?_ | (with_reducible refine t_kLE ?_ ?_; rotate_left) | with_reducible refine t_region fun K => ?_ | with_reducible refine t_draw (by kernel_rfl) fun K => ?_); simp only [go_sem, Int.cast_ofNat_Int, Nat.reduceEqDiff, reduceIte, Nat.reduceAdd, Nat.reduceMul, Nat.reduceLeDiff, Nat.reduceSub, Nat.reduceLT, Nat.zero_lt_succ, Int.reduceToNat, Int.reduceAdd, Int.reduceSub, Int.reduceMul, Int.reduceNeg, Int.reduceLT, Int.reduceLE, Int.reduceEq, Int.reduceBEq, Int.reduceBNe, Nat.reduceBEq, List.reduceReplicate, con16_f, con32_f, con33_f, con34_f, con16_c, con32_c, con33_c, con34_10, con34_11, con34_12, con34_13, con34_14, con34_15])
    | (with_reducible exact kp_nil)
    | (with_reducible exact Kp.refl _)
    | (with_reducible exact kp_to)
    | (with_reducible refine kp_cons ?_)
    | (with_reducible refine kp_arr ?_)
    | (with_reducible refine kp_app ?_)
    | ((with_reducible refine t_cond fun A B => ?_); simp only [go_sem, Int.cast_ofNat_Int, Nat.reduceEqDiff, reduceIte, Nat.reduceAdd, Nat.reduceMul, Nat.reduceLeDiff, Nat.reduceSub, Nat.reduceLT, Nat.zero_lt_succ, Int.reduceToNat, Int.reduceAdd, Int.reduceSub, Int.reduceMul, Int.reduceNeg, Int.reduceLT, Int.reduceLE, Int.reduceEq, Int.reduceBEq, Int.reduceBNe, Nat.reduceBEq, List.reduceReplicate, con16_f, con32_f, con33_f, con34_f, con16_c, con32_c, con33_c, con34_10, con34_11, con34_12, con34_13, con34_14, con34_15]; first | (with_reducible refine A.h ?_) | (with_reducible refine B.h ?_) | refine And.intro (fun hc => A.h ?_) (fun hc => B.h ?_))
    | simp only [thenQ_n, thenQ_r, thenQ_e, blockQ_n, blockQ_r, blockQ_e, scopeQ_n, scopeQ_r, scopeQ_e, Nat.reduceEqDiff, reduceIte]
    | (with_reducible refine And.intro ?_ ?_)
    | with_reducible intro vr)
  all_goals try (intros; (try simp only [Bool.and_eq_true, Bool.or_eq_true, Bool.not_eq_true', decide_eq_true_eq, decide_eq_false_iff_not, beq_iff_eq, bne_iff_ne, ne_eq, inI64, List.length_append] at *) <;> omega)
  refine end_ret rfl ?_
  simp only [fin, go_sem, Int.cast_ofNat_Int, Nat.reduceEqDiff, reduceIte, Nat.reduceAdd, Nat.reduceMul, Nat.reduceLeDiff, Nat.reduceSub, Nat.reduceLT, Nat.zero_lt_succ, Int.reduceToNat, Int.reduceAdd, Int.reduceSub, Int.reduceMul, Int.reduceNeg, Int.reduceLT, Int.reduceLE, Int.reduceEq, Int.reduceBEq, Int.reduceBNe, Nat.reduceBEq, List.reduceReplicate, vS]
  exact LeA.refl _
set_option maxHeartbeats 1000000 in
theorem v26_20 {a b c : Int} (h0 : a = 0 ∨ a = 1) (h1 : el b) (h2 : el c) : PC Try.prog 26 [.lit (.string (⟨#[115, 101, 108, 101, 99, 116]⟩ : ByteArray)), .sl false 1 [.lit (.int .i64 a), .lit (.int .i64 b), .lit (.int .i64 c)]] (.lit (.int .i64 (vS 20 [a, b, c]))) := by
  rcases h0 with rfl | rfl
  · skip
    refine pc_of E5_ok mixed (fun _ => [0, 1, 4, 5, 6, 16, 26, 36, 46, 51, 67, 77, 87, 94, 105, 111, 120, 126, 135]) Try.func26 rfl (by kernel_rfl) (Nat.le_of_ble_eq_true rfl) ?_
    simp only [initF_cons, initF_nil, Nat.reduceAdd]
    refine t_name fun KF => ?_
    unfold E5
    repeat' (first
      | with_reducible refine t_seq fun K => ?_
      | with_reducible refine t_block ?_
      | with_reducible refine t_scope ?_
      | with_reducible refine t_label ?_
      | with_reducible refine t_skip ?_
      | with_reducible refine t_exit ?_
      | with_reducible refine t_ret ?_
      | with_reducible refine t_k ?_
      | (with_reducible refine t_gF ?_)
      | ((first | with_reducible refine t_kE ?_ | with_reducible refine t_kD ?_ | with_reducible refine t_gS ?_ | with_reducible refine t_kL ?_ | (with_reducible refine t_kLE ?_ ?_; rotate_left) | with_reducible refine t_region fun K => ?_ | with_reducible refine t_draw (by kernel_rfl) fun K => ?_); simp only [go_sem, Int.cast_ofNat_Int, Nat.reduceEqDiff, reduceIte, Nat.reduceAdd, Nat.reduceMul, Nat.reduceLeDiff, Nat.reduceSub, Nat.reduceLT, Nat.zero_lt_succ, Int.reduceToNat, Int.reduceAdd, Int.reduceSub, Int.reduceMul, Int.reduceNeg, Int.reduceLT, Int.reduceLE, Int.reduceEq, Int.reduceBEq, Int.reduceBNe, Nat.reduceBEq, List.reduceReplicate, con16_f, con32_f, con33_f, con34_f, con16_c, con32_c, con33_c, con34_10, con34_11, con34_12, con34_13, con34_14, con34_15])
      | (with_reducible exact kp_nil)
      | (with_reducible exact Kp.refl _)
      | (with_reducible exact kp_to)
      | (with_reducible refine kp_cons ?_)
      | (with_reducible refine kp_arr ?_)
      | (with_reducible refine kp_app ?_)
      | ((with_reducible refine t_cond fun A B => ?_); simp only [go_sem, Int.cast_ofNat_Int, Nat.reduceEqDiff, reduceIte, Nat.reduceAdd, Nat.reduceMul, Nat.reduceLeDiff, Nat.reduceSub, Nat.reduceLT, Nat.zero_lt_succ, Int.reduceToNat, Int.reduceAdd, Int.reduceSub, Int.reduceMul, Int.reduceNeg, Int.reduceLT, Int.reduceLE, Int.reduceEq, Int.reduceBEq, Int.reduceBNe, Nat.reduceBEq, List.reduceReplicate, con16_f, con32_f, con33_f, con34_f, con16_c, con32_c, con33_c, con34_10, con34_11, con34_12, con34_13, con34_14, con34_15]; first | (with_reducible refine A.h ?_) | (with_reducible refine B.h ?_) | refine And.intro (fun hc => A.h ?_) (fun hc => B.h ?_))
      | simp only [thenQ_n, thenQ_r, thenQ_e, blockQ_n, blockQ_r, blockQ_e, scopeQ_n, scopeQ_r, scopeQ_e, Nat.reduceEqDiff, reduceIte]
      | (with_reducible refine And.intro ?_ ?_)
      | with_reducible intro vr)
    all_goals try (intros; (try simp only [Bool.and_eq_true, Bool.or_eq_true, Bool.not_eq_true', decide_eq_true_eq, decide_eq_false_iff_not, beq_iff_eq, bne_iff_ne, ne_eq, inI64, List.length_append] at *) <;> omega)
    refine end_ret rfl ?_
    simp only [fin, go_sem, Int.cast_ofNat_Int, Nat.reduceEqDiff, reduceIte, Nat.reduceAdd, Nat.reduceMul, Nat.reduceLeDiff, Nat.reduceSub, Nat.reduceLT, Nat.zero_lt_succ, Int.reduceToNat, Int.reduceAdd, Int.reduceSub, Int.reduceMul, Int.reduceNeg, Int.reduceLT, Int.reduceLE, Int.reduceEq, Int.reduceBEq, Int.reduceBNe, Nat.reduceBEq, List.reduceReplicate, vS]
    exact LeA.refl _
  · skip
    refine pc_of E5_ok mixed (fun _ => [0, 1, 4, 5, 6, 16, 26, 36, 46, 51, 67, 77, 87, 94, 105, 111, 120, 126, 135]) Try.func26 rfl (by kernel_rfl) (Nat.le_of_ble_eq_true rfl) ?_
    simp only [initF_cons, initF_nil, Nat.reduceAdd]
    refine t_name fun KF => ?_
    unfold E5
    repeat' (first
      | with_reducible refine t_seq fun K => ?_
      | with_reducible refine t_block ?_
      | with_reducible refine t_scope ?_
      | with_reducible refine t_label ?_
      | with_reducible refine t_skip ?_
      | with_reducible refine t_exit ?_
      | with_reducible refine t_ret ?_
      | with_reducible refine t_k ?_
      | (with_reducible refine t_gF ?_)
      | ((first | with_reducible refine t_kE ?_ | with_reducible refine t_kD ?_ | with_reducible refine t_gS ?_ | with_reducible refine t_kL ?_ | (with_reducible refine t_kLE ?_ ?_; rotate_left) | with_reducible refine t_region fun K => ?_ | with_reducible refine t_draw (by kernel_rfl) fun K => ?_); simp only [go_sem, Int.cast_ofNat_Int, Nat.reduceEqDiff, reduceIte, Nat.reduceAdd, Nat.reduceMul, Nat.reduceLeDiff, Nat.reduceSub, Nat.reduceLT, Nat.zero_lt_succ, Int.reduceToNat, Int.reduceAdd, Int.reduceSub, Int.reduceMul, Int.reduceNeg, Int.reduceLT, Int.reduceLE, Int.reduceEq, Int.reduceBEq, Int.reduceBNe, Nat.reduceBEq, List.reduceReplicate, con16_f, con32_f, con33_f, con34_f, con16_c, con32_c, con33_c, con34_10, con34_11, con34_12, con34_13, con34_14, con34_15])
      | (with_reducible exact kp_nil)
      | (with_reducible exact Kp.refl _)
      | (with_reducible exact kp_to)
      | (with_reducible refine kp_cons ?_)
      | (with_reducible refine kp_arr ?_)
      | (with_reducible refine kp_app ?_)
      | ((with_reducible refine t_cond fun A B => ?_); simp only [go_sem, Int.cast_ofNat_Int, Nat.reduceEqDiff, reduceIte, Nat.reduceAdd, Nat.reduceMul, Nat.reduceLeDiff, Nat.reduceSub, Nat.reduceLT, Nat.zero_lt_succ, Int.reduceToNat, Int.reduceAdd, Int.reduceSub, Int.reduceMul, Int.reduceNeg, Int.reduceLT, Int.reduceLE, Int.reduceEq, Int.reduceBEq, Int.reduceBNe, Nat.reduceBEq, List.reduceReplicate, con16_f, con32_f, con33_f, con34_f, con16_c, con32_c, con33_c, con34_10, con34_11, con34_12, con34_13, con34_14, con34_15]; first | (with_reducible refine A.h ?_) | (with_reducible refine B.h ?_) | refine And.intro (fun hc => A.h ?_) (fun hc => B.h ?_))
      | simp only [thenQ_n, thenQ_r, thenQ_e, blockQ_n, blockQ_r, blockQ_e, scopeQ_n, scopeQ_r, scopeQ_e, Nat.reduceEqDiff, reduceIte]
      | (with_reducible refine And.intro ?_ ?_)
      | with_reducible intro vr)
    all_goals try (intros; (try simp only [Bool.and_eq_true, Bool.or_eq_true, Bool.not_eq_true', decide_eq_true_eq, decide_eq_false_iff_not, beq_iff_eq, bne_iff_ne, ne_eq, inI64, List.length_append] at *) <;> omega)
    refine end_ret rfl ?_
    simp only [fin, go_sem, Int.cast_ofNat_Int, Nat.reduceEqDiff, reduceIte, Nat.reduceAdd, Nat.reduceMul, Nat.reduceLeDiff, Nat.reduceSub, Nat.reduceLT, Nat.zero_lt_succ, Int.reduceToNat, Int.reduceAdd, Int.reduceSub, Int.reduceMul, Int.reduceNeg, Int.reduceLT, Int.reduceLE, Int.reduceEq, Int.reduceBEq, Int.reduceBNe, Nat.reduceBEq, List.reduceReplicate, vS]
    exact LeA.refl _
set_option maxHeartbeats 1000000 in
theorem v26_21 {a : Int} (h0 : a = 0 ∨ a = 1) : PC Try.prog 26 [.lit (.string (⟨#[116, 111, 105, 110, 116]⟩ : ByteArray)), .sl false 1 [.lit (.int .i64 a)]] (.lit (.int .i64 (vS 21 [a]))) := by
  refine pc_of E5_ok mixed (fun _ => [0, 1, 4, 5, 6, 16, 26, 36, 46, 51, 67, 77, 87, 94, 105, 111, 120, 126, 135]) Try.func26 rfl (by kernel_rfl) (Nat.le_of_ble_eq_true rfl) ?_
  simp only [initF_cons, initF_nil, Nat.reduceAdd]
  refine t_name fun KF => ?_
  unfold E5
  repeat' (first
    | with_reducible refine t_seq fun K => ?_
    | with_reducible refine t_block ?_
    | with_reducible refine t_scope ?_
    | with_reducible refine t_label ?_
    | with_reducible refine t_skip ?_
    | with_reducible refine t_exit ?_
    | with_reducible refine t_ret ?_
    | with_reducible refine t_k ?_
    | (with_reducible refine t_gF ?_)
    | ((first | with_reducible refine t_kE ?_ | with_reducible refine t_kD ?_ | with_reducible refine t_gS ?_ | with_reducible refine t_kL ?_ | (with_reducible refine t_kLE ?_ ?_; rotate_left) | with_reducible refine t_region fun K => ?_ | with_reducible refine t_draw (by kernel_rfl) fun K => ?_); simp only [go_sem, Int.cast_ofNat_Int, Nat.reduceEqDiff, reduceIte, Nat.reduceAdd, Nat.reduceMul, Nat.reduceLeDiff, Nat.reduceSub, Nat.reduceLT, Nat.zero_lt_succ, Int.reduceToNat, Int.reduceAdd, Int.reduceSub, Int.reduceMul, Int.reduceNeg, Int.reduceLT, Int.reduceLE, Int.reduceEq, Int.reduceBEq, Int.reduceBNe, Nat.reduceBEq, List.reduceReplicate, con16_f, con32_f, con33_f, con34_f, con16_c, con32_c, con33_c, con34_10, con34_11, con34_12, con34_13, con34_14, con34_15])
    | (with_reducible exact kp_nil)
    | (with_reducible exact Kp.refl _)
    | (with_reducible exact kp_to)
    | (with_reducible refine kp_cons ?_)
    | (with_reducible refine kp_arr ?_)
    | (with_reducible refine kp_app ?_)
    | ((with_reducible refine t_cond fun A B => ?_); simp only [go_sem, Int.cast_ofNat_Int, Nat.reduceEqDiff, reduceIte, Nat.reduceAdd, Nat.reduceMul, Nat.reduceLeDiff, Nat.reduceSub, Nat.reduceLT, Nat.zero_lt_succ, Int.reduceToNat, Int.reduceAdd, Int.reduceSub, Int.reduceMul, Int.reduceNeg, Int.reduceLT, Int.reduceLE, Int.reduceEq, Int.reduceBEq, Int.reduceBNe, Nat.reduceBEq, List.reduceReplicate, con16_f, con32_f, con33_f, con34_f, con16_c, con32_c, con33_c, con34_10, con34_11, con34_12, con34_13, con34_14, con34_15]; first | (with_reducible refine A.h ?_) | (with_reducible refine B.h ?_) | refine And.intro (fun hc => A.h ?_) (fun hc => B.h ?_))
    | simp only [thenQ_n, thenQ_r, thenQ_e, blockQ_n, blockQ_r, blockQ_e, scopeQ_n, scopeQ_r, scopeQ_e, Nat.reduceEqDiff, reduceIte]
    | (with_reducible refine And.intro ?_ ?_)
    | with_reducible intro vr)
  all_goals try (intros; (try simp only [Bool.and_eq_true, Bool.or_eq_true, Bool.not_eq_true', decide_eq_true_eq, decide_eq_false_iff_not, beq_iff_eq, bne_iff_ne, ne_eq, inI64, List.length_append] at *) <;> omega)
  refine end_ret rfl ?_
  simp only [fin, go_sem, Int.cast_ofNat_Int, Nat.reduceEqDiff, reduceIte, Nat.reduceAdd, Nat.reduceMul, Nat.reduceLeDiff, Nat.reduceSub, Nat.reduceLT, Nat.zero_lt_succ, Int.reduceToNat, Int.reduceAdd, Int.reduceSub, Int.reduceMul, Int.reduceNeg, Int.reduceLT, Int.reduceLE, Int.reduceEq, Int.reduceBEq, Int.reduceBNe, Nat.reduceBEq, List.reduceReplicate, vS]
  exact LeA.refl _
noncomputable def con26 : PCon Try.prog where
  f := 26
  c := fun
    | [.lit (.string op), x] => (rowIx op).bind fun i => (slK .i64 x).map fun xs => (okL i xs, .lit (.int .i64 (vS i xs)))
    | _ => none
  ok := by
    intro args p r hc hp
    split at hc
    · rename_i op x
      rcases ix_cases op with ⟨i, hi, he, hx, _⟩ | ⟨hx, _⟩
      · rw [hx] at hc
        cases hl : slK .i64 x with
        | none => rw [hl] at hc; cases hc
        | some xs =>
          rw [hl] at hc
          cases hc
          refine PC.weak (bs := [.lit (.string op), .sl false 1 (ints .i64 xs)]) ?_ ⟨LeA.refl _, slK_le hl, trivial⟩
          subst he
          clear hx hl
          have : i = 0 ∨ i = 1 ∨ i = 2 ∨ i = 3 ∨ i = 4 ∨ i = 5 ∨ i = 6 ∨ i = 7 ∨ i = 8 ∨ i = 9 ∨ i = 10 ∨ i = 11 ∨ i = 12 ∨ i = 13 ∨ i = 14 ∨ i = 15 ∨ i = 16 ∨ i = 17 ∨ i = 18 ∨ i = 19 ∨ i = 20 ∨ i = 21 := by omega
          rcases this with rfl | rfl | rfl | rfl | rfl | rfl | rfl | rfl | rfl | rfl | rfl | rfl | rfl | rfl | rfl | rfl | rfl | rfl | rfl | rfl | rfl | rfl
          · obtain ⟨a, b, rfl, h0, h1⟩ := okL_0.1 hp; exact v26_0 h0 h1
          · obtain ⟨a, b, rfl, h0, h1⟩ := okL_1.1 hp; exact v26_1 h0 h1
          · obtain ⟨a, b, rfl, h0, h1⟩ := okL_2.1 hp; exact v26_2 h0 h1
          · obtain ⟨a, b, rfl, h0, h1⟩ := okL_3.1 hp; exact v26_3 h0 h1
          · obtain ⟨a, b, rfl, h0, h1⟩ := okL_4.1 hp; exact v26_4 h0 h1
          · obtain ⟨a, b, rfl, h0, h1⟩ := okL_5.1 hp; exact v26_5 h0 h1
          · obtain ⟨a, b, rfl, h0, h1⟩ := okL_6.1 hp; exact v26_6 h0 h1
          · obtain ⟨a, rfl, h0⟩ := okL_7.1 hp; exact v26_7 h0
          · obtain ⟨a, rfl, h0⟩ := okL_8.1 hp; exact v26_8 h0
          · obtain ⟨a, rfl, h0⟩ := okL_9.1 hp; exact v26_9 h0
          · obtain ⟨a, b, rfl, h0, h1⟩ := okL_10.1 hp; exact v26_10 h0 h1
          · obtain ⟨a, b, rfl, h0, h1⟩ := okL_11.1 hp; exact v26_11 h0 h1
          · obtain ⟨a, b, rfl, h0, h1⟩ := okL_12.1 hp; exact v26_12 h0 h1
          · obtain ⟨a, b, rfl, h0, h1⟩ := okL_13.1 hp; exact v26_13 h0 h1
          · obtain ⟨a, b, rfl, h0, h1⟩ := okL_14.1 hp; exact v26_14 h0 h1
          · obtain ⟨a, b, rfl, h0, h1⟩ := okL_15.1 hp; exact v26_15 h0 h1
          · obtain ⟨a, b, rfl, h0, h1⟩ := okL_16.1 hp; exact v26_16 h0 h1
          · obtain ⟨a, b, rfl, h0, h1⟩ := okL_17.1 hp; exact v26_17 h0 h1
          · obtain ⟨a, b, rfl, h0, h1⟩ := okL_18.1 hp; exact v26_18 h0 h1
          · obtain ⟨a, rfl, h0⟩ := okL_19.1 hp; exact v26_19 h0
          · obtain ⟨a, b, c, rfl, h0, h1, h2⟩ := okL_20.1 hp; exact v26_20 h0 h1 h2
          · obtain ⟨a, rfl, h0⟩ := okL_21.1 hp; exact v26_21 h0
      · rw [hx] at hc; cases hc
    · cases hc
  fk := fk26
theorem con26_f : con26.f = 26 := rfl
theorem con26_c {op : ByteArray} {x : AV} : con26.c [.lit (.string op), x] = (rowIx op).bind fun i => (slK .i64 x).map fun xs => (okL i xs, .lit (.int .i64 (vS i xs))) := rfl
end Go.Proofs.Ytbmogpafhdbfdaa
