/- Matrices: what transpose and diagonal give. -/
import Derived.Test.YtjlcbojpiieafaaTH

set_option linter.all false

namespace Go.Proofs.Ytjlcbojpiieafaa
open Go Go.Fw

theorem ty_cases {e : ByteArray} (h : tyOk e = true) : e = sInt ∨ e = sBool := by
  unfold tyOk at h
  rw [Bool.or_eq_true] at h
  rcases h with h | h
  · exact .inl (eqS_iff.1 h)
  · exact .inr (eqS_iff.1 h)
theorem res_tr {e : ByteArray} (h : tyOk e = true) : resultS n_transpose [e] = (e, true) := by
  rcases ty_cases h with rfl | rfl <;> rfl
theorem res_dg {e : ByteArray} (h : tyOk e = true) : resultS n_diagonal [e] = (e, true) := by
  rcases ty_cases h with rfl | rfl <;> rfl
/-- The elements of the transposed matrix. -/
def trD (x : List Int) (r c : Nat) : List Int := (List.range (c * r)).map fun (p : Nat) => x.getD (p % r * c + p / r) 0
def dgD (x : List Int) (n : Nat) : List Int := (List.range n).map fun (p : Nat) => x.getD (p * n + p) 0
theorem trD_len {x : List Int} {r c : Nat} : (trD x r c).length = c * r := by simp [trD]
theorem dgD_len {x : List Int} {n : Nat} : (dgD x n).length = n := by simp [dgD]
theorem map_range_getD {f : Nat → Int} {n p : Nat} (h : p < n) : ((List.range n).map f).getD p 0 = f p := by
  rw [List.getD_eq_getElem?_getD, List.getElem?_map, List.getElem?_range h]; rfl
theorem trD_get {x : List Int} {r c p : Nat} (h : p < c * r) : (trD x r c).getD p 0 = x.getD (p % r * c + p / r) 0 := map_range_getD h
theorem dgD_get {x : List Int} {n p : Nat} (h : p < n) : (dgD x n).getD p 0 = x.getD (p * n + p) 0 := map_range_getD h
structure vM (e : ByteArray) (r c : Nat) (x : List Int) : Prop where
  ty : tyOk e = true
  rb : r ≤ 4096
  cb : c ≤ 4096
  len : x.length = r * c
  le : r * c ≤ 4096
  all : allV e x
theorem vM.ofE {e : ByteArray} {r c : Nat} {x : List Int} (h : vM e r c x) : ofE ⟨e, [(r : Int), (c : Int)], x⟩ = 0 := by
  have h1 := h.rb
  have h2 := h.cb
  have hz := dz2 (m := (r : Int)) (n := (c : Int)) ⟨by omega, by omega⟩ ⟨by omega, by omega⟩ (by rw [← Int.natCast_mul]; have := h.le; omega)
  exact of_ok h.ty (by rw [hz]) (by rw [hz, h.len, Int.natCast_mul]) h.all
theorem vM_of {e : ByteArray} {r c : Int} {x : List Int} (h : Go.Proofs.Ytjlcbojpiieafaa.ofE ⟨e, [r, c], x⟩ = 0) : ∃ (r' c' : Nat), r = r' ∧ c = c' ∧ vM e r' c' x := by
  have h1 := (ofE_inv h).2.1
  obtain ⟨-, hd, hn, h4⟩ := sizeS_ok h1
  have hr := hd r (by simp)
  have hc := hd c (by simp)
  have hn' : (x.length : Int) = r * c := by simpa [prI] using hn
  have h4' : (x.length : Int) ≤ 4096 := h4
  have e : ((r.toNat * c.toNat : Nat) : Int) = r * c := by rw [Int.natCast_mul, Int.toNat_of_nonneg hr.1, Int.toNat_of_nonneg hc.1]
  exact ⟨r.toNat, c.toNat, by omega, by omega, (ofE_inv h).1, by omega, by omega, by omega, by omega, val_allV h⟩
theorem get_mem {x : List Int} {e : ByteArray} (h : allV e x) {i : Nat} (hi : i < x.length) : vld e (x.getD i 0) = true := by
  rw [List.getD_eq_getElem?_getD, List.getElem?_eq_getElem hi]
  exact h _ (List.getElem_mem hi)
theorem idx_tr {r c p : Nat} (h : p < c * r) : p % r * c + p / r < r * c ∧ p % r < r ∧ p / r < c := by
  have hr : 0 < r := by rcases Nat.eq_zero_or_pos r with h0 | h0; subst h0; simp at h; exact h0
  have h1 := Nat.mod_lt p hr
  have h2 : p / r < c := Nat.div_lt_of_lt_mul (by rw [Nat.mul_comm]; exact h)
  have h3 : (p % r + 1) * c ≤ r * c := Nat.mul_le_mul_right _ (by omega)
  rw [Nat.add_mul, Nat.one_mul] at h3
  exact ⟨by omega, h1, h2⟩
theorem vM.tr {e : ByteArray} {r c : Nat} {x : List Int} (h : vM e r c x) : vM e c r (trD x r c) :=
  ⟨h.ty, h.cb, h.rb, trD_len, by rw [Nat.mul_comm]; exact h.le, fun n hn => by
    unfold trD at hn
    obtain ⟨p, hp, rfl⟩ := List.mem_map.1 hn
    rw [List.mem_range] at hp
    exact get_mem h.all (by rw [h.len]; exact (idx_tr hp).1)⟩
theorem do_tr {e : ByteArray} {r c : Nat} {x : List Int} (h : vM e r c x) : doA n_transpose 0 [⟨e, [(r : Int), (c : Int)], x⟩] = ⟨e, [(c : Int), (r : Int)], trD x r c⟩ := by
  have h1 := h.rb
  have h2 := h.cb
  have dr : dm (r : Int) := ⟨by omega, by omega⟩
  have dc : dm (c : Int) := ⟨by omega, by omega⟩
  have e1 : (c : Int) * r = ((c * r : Nat) : Int) := by rw [Int.natCast_mul]
  have hz := dz2 dc dr (by rw [e1, Nat.mul_comm]; have := h.le; omega)
  have hv : ∀ a ∈ [(⟨e, [(r : Int), (c : Int)], x⟩ : Arr)], Go.Proofs.Ytjlcbojpiieafaa.ofE a = 0 := fun a ha => by rw [List.mem_singleton] at ha; subst ha; exact h.ofE
  have hh := app_fwd (op := n_transpose) (el := e) (ns := []) (num := 0) (cs := [⟨e, [(r : Int), (c : Int)], x⟩]) (d := [(c : Int), (r : Int)]) (.transpose _ _ dr dc) hv (by rw [hz]) (res_tr h.ty)
  refine (do_of hh).trans ?_
  show (⟨e, [(c : Int), (r : Int)], gatherS 114 0 [(c : Int), (r : Int)] ⟨e, [(r : Int), (c : Int)], x⟩ (sizeS [(c : Int), (r : Int)]).1.toNat⟩ : Arr) = _
  rw [hz, gat_ext (x := trD x r c) (by rw [trD_len, e1])]
  intro p hp
  rw [e1] at hp
  rw [dig2, trD_get (by omega)]
  show x.getD ((p : Int) % r * c + (p : Int) / r).toNat 0 = _
  rw [show ((p : Int) % r * c + (p : Int) / r) = ((p % r * c + p / r : Nat) : Int) by push_cast; rfl, Int.toNat_natCast]
theorem tr_tr {x : List Int} {r c : Nat} (hl : x.length = r * c) : trD (trD x r c) c r = x := by
  apply List.ext_getElem
  · rw [trD_len, hl]
  · intro q h1 h2
    rw [trD_len] at h1
    have hg : (trD (trD x r c) c r)[q] = (trD (trD x r c) c r).getD q 0 := by rw [List.getD_eq_getElem?_getD, List.getElem?_eq_getElem (by rw [trD_len]; exact h1)]; rfl
    have hg2 : x[q] = x.getD q 0 := by rw [List.getD_eq_getElem?_getD, List.getElem?_eq_getElem h2]; rfl
    rw [hg, hg2, trD_get h1]
    obtain ⟨i1, i2, i3⟩ := idx_tr h1
    rw [trD_get i1]
    have hr : 0 < r := Nat.lt_of_le_of_lt (Nat.zero_le _) i3
    have a1 : (q % c * r + q / c) % r = q / c := by rw [Nat.mul_comm, Nat.mul_add_mod, Nat.mod_eq_of_lt i3]
    have a2 : (q % c * r + q / c) / r = q % c := by rw [Nat.mul_comm, Nat.mul_add_div hr, Nat.div_eq_of_lt i3]; rfl
    rw [a1, a2, Nat.div_add_mod']
theorem idx_dg {n p : Nat} (h : p < n) : p * n + p < n * n := by
  have : (p + 1) * n ≤ n * n := Nat.mul_le_mul_right _ (by omega)
  rw [Nat.add_mul, Nat.one_mul] at this
  omega
theorem do_dg {e : ByteArray} {n : Nat} {x : List Int} (h : vM e n n x) : doA n_diagonal 0 [⟨e, [(n : Int), (n : Int)], x⟩] = ⟨e, [(n : Int)], dgD x n⟩ := by
  have h1 := h.rb
  have dn : dm (n : Int) := ⟨by omega, by omega⟩
  have hv : ∀ a ∈ [(⟨e, [(n : Int), (n : Int)], x⟩ : Arr)], Go.Proofs.Ytjlcbojpiieafaa.ofE a = 0 := fun a ha => by rw [List.mem_singleton] at ha; subst ha; exact h.ofE
  have hh := app_fwd (op := n_diagonal) (el := e) (ns := []) (num := 0) (cs := [⟨e, [(n : Int), (n : Int)], x⟩]) (d := [(n : Int)]) (.diagonal _ dn) hv (by rw [dz1 dn]) (res_dg h.ty)
  refine (do_of hh).trans ?_
  show (⟨e, [(n : Int)], gatherS 116 0 [(n : Int)] ⟨e, [(n : Int), (n : Int)], x⟩ (sizeS [(n : Int)]).1.toNat⟩ : Arr) = _
  rw [dz1 dn, gat_ext (x := dgD x n) (by rw [dgD_len])]
  intro p hp
  rw [dig1, dgD_get (by omega)]
  show x.getD ((p : Int) * n + p).toNat 0 = _
  rw [show ((p : Int) * n + p) = ((p * n + p : Nat) : Int) by push_cast; rfl, Int.toNat_natCast]
theorem dg_tr {x : List Int} {n : Nat} : dgD (trD x n n) n = dgD x n := by
  unfold dgD
  apply List.map_congr_left
  intro p hp
  rw [List.mem_range] at hp
  have hn : 0 < n := by omega
  rw [trD_get (idx_dg hp)]
  have a1 : (p * n + p) % n = p := by rw [Nat.mul_comm, Nat.mul_add_mod, Nat.mod_eq_of_lt hp]
  have a2 : (p * n + p) / n = p := by rw [Nat.mul_comm, Nat.mul_add_div hn, Nat.div_eq_of_lt hp]; rfl
  rw [a1, a2]
theorem dg_val {e : ByteArray} {n : Nat} {x : List Int} (h : vM e n n x) : Go.Proofs.Ytjlcbojpiieafaa.ofE ⟨e, [(n : Int)], dgD x n⟩ = 0 := by
  have h1 := h.rb
  have dn : dm (n : Int) := ⟨by omega, by omega⟩
  refine of_ok h.ty (by rw [dz1 dn]) (by rw [dz1 dn, dgD_len]) fun v hv => ?_
  unfold dgD at hv
  obtain ⟨p, hp, rfl⟩ := List.mem_map.1 hv
  rw [List.mem_range] at hp
  exact get_mem h.all (by rw [h.len]; exact idx_dg hp)
/-- A matrix that is not square has no diagonal. -/
theorem dg_no {e : ByteArray} {r c : Nat} {x : List Int} (h : vM e r c x) (hne : r ≠ c) : applyS n_diagonal [] 0 [⟨e, [(r : Int), (c : Int)], x⟩] = (nilA, false, 14) := by
  have hz := (ofE_inv h.ofE).2.1
  unfold applyS
  rw [if_neg (fun h => h rfl)]
  rw [if_neg (by rw [show [(⟨e, [(r : Int), (c : Int)], x⟩ : Arr)].all valA = true from all_val fun a ha => by rw [List.mem_singleton] at ha; subst ha; exact h.ofE]; simp)]
  unfold applyT
  have hr : resultS n_diagonal ([(⟨e, [(r : Int), (c : Int)], x⟩ : Arr)].map (·.e)) = (e, true) := res_dg h.ty
  have hd : dimsI n_diagonal [] 0 ([(⟨e, [(r : Int), (c : Int)], x⟩ : Arr)].map (·.d)) = ([], 14) := by
    show dimsI n_diagonal [] 0 [[(r : Int), (c : Int)]] = ([], 14)
    unfold dimsI
    rw [if_neg (fun h => h rfl), if_neg (show ¬ rkBad [[(r : Int), (c : Int)]] (givenS n_diagonal (([] : List Int).length : Int) 0 ([[(r : Int), (c : Int)]].length : Int)).1.ranks = true from (show ¬ rkBad [[(r : Int), (c : Int)]] [2] = true by simp [rkBad])), if_neg (by rw [szErr, hz]; simp [szErr])]
    show dimsOf (ents.getD 7 ent0) 0 [[(r : Int), (c : Int)]] = ([], 14)
    unfold dimsOf
    have : dimsS (((ents.getD 7 ent0)).dims.getD 0) 0 [[(r : Int), (c : Int)]] = ([], 14) := by
      show (if (r : Int) ≠ (c : Int) then (([] : List Int), (14 : Int)) else _) = _
      rw [if_pos (by omega)]
    rw [this]
    rfl
  rw [hr, hd, if_neg (by simp), if_pos (by simp)]
end Go.Proofs.Ytjlcbojpiieafaa
