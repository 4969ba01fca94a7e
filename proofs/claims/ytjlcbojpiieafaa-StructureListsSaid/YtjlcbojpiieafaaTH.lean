/- Primitives of lists: what they give. -/
import Derived.Test.YtjlcbojpiieafaaTE
import Derived.Test.YtjlcbojpiieafaaTD

set_option linter.all false

namespace Go.Proofs.Ytjlcbojpiieafaa
open Go Go.Fw

theorem sizeS_mk {d : List Int} (h6 : d.length ≤ 6) (hd : dimOk d) (h4 : prI d ≤ 4096) : sizeS d = (prI d, 0) := by
  unfold sizeS
  rw [if_neg (by omega), if_neg (by
    intro hb
    obtain ⟨x, hx, hb⟩ := List.any_eq_true.1 hb
    have := hd x hx
    unfold badD at hb
    rw [Bool.or_eq_true, decide_eq_true_eq, decide_eq_true_eq] at hb
    omega)]
  split
  · rename_i h0; rw [prI_zero h0]
  · rename_i h0
    rw [prodS_ok (not_any_zero hd h0) (by decide) (by omega), Int.one_mul]
theorem dz1 {n : Int} (h : dm n) : sizeS [n] = (n, 0) := by
  have := sizeS_mk (d := [n]) (by simp) (fun x hx => by rw [List.mem_singleton] at hx; subst hx; exact h) (by rw [prI, prI]; have := h.2; omega)
  rw [this, prI, prI, Int.mul_one]
theorem dz2 {m n : Int} (hm : dm m) (hn : dm n) (h : m * n ≤ 4096) : sizeS [m, n] = (m * n, 0) := by
  have := sizeS_mk (d := [m, n]) (by simp) (fun x hx => by
    rcases List.mem_cons.1 hx with rfl | hx
    · exact hm
    · rw [List.mem_singleton] at hx; subst hx; exact hn) (by rw [prI, prI, prI, Int.mul_one]; exact h)
  rw [this, prI, prI, prI, Int.mul_one]
structure vL (a : List Int) : Prop where
  len : a.length ≤ 4096
  all : allV sInt a
theorem vL_of {a : List Int} (h : ofE (listA a) = 0) : vL a := ⟨(val_len h).2, val_allV h⟩
theorem vL.dm {a : List Int} (h : vL a) : dm (a.length : Int) := ⟨by omega, by have := h.len; omega⟩
theorem vL.ofE {a : List Int} (h : vL a) : ofE (listA a) = 0 := of_ok rfl (by rw [dz1 h.dm]) (by rw [dz1 h.dm]) h.all
theorem vL.app {a b : List Int} (ha : vL a) (hb : vL b) (h : a.length + b.length ≤ 4096) : vL (a ++ b) := ⟨by rw [List.length_append]; exact h, fun n hn => by
  rcases List.mem_append.1 hn with hn | hn
  · exact ha.all n hn
  · exact hb.all n hn⟩
theorem vL.take {a : List Int} (ha : vL a) (k : Nat) : vL (a.take k) := ⟨by have := ha.len; rw [List.length_take]; omega, fun n hn => ha.all n (List.mem_of_mem_take hn)⟩
theorem vL.drop {a : List Int} (ha : vL a) (k : Nat) : vL (a.drop k) := ⟨by have := ha.len; rw [List.length_drop]; omega, fun n hn => ha.all n (List.mem_of_mem_drop hn)⟩
theorem vL.rev {a : List Int} (ha : vL a) : vL a.reverse := ⟨by have := ha.len; rw [List.length_reverse]; omega, fun n hn => ha.all n (List.mem_reverse.1 hn)⟩
theorem v1 {a : List Int} (ha : vL a) : ∀ x ∈ [listA a], Go.Proofs.Ytjlcbojpiieafaa.ofE x = 0 := fun x hx => by
  rw [List.mem_singleton] at hx; subst hx; exact ha.ofE
theorem v2 {a b : List Int} (ha : vL a) (hb : vL b) : ∀ x ∈ [listA a, listA b], Go.Proofs.Ytjlcbojpiieafaa.ofE x = 0 := fun x hx => by
  rcases List.mem_cons.1 hx with rfl | hx
  · exact ha.ofE
  · exact v1 hb x hx
theorem do_of {op : ByteArray} {k : Int} {cs : List Arr} {r : Arr} {b : Bool} (h : applyS op (if sizedS op = true then [k] else []) 0 cs = (r, b, 0)) : doA op k cs = r := by
  unfold doA doT
  rw [h, if_neg (by simp)]
theorem gat_ext {g : Nat} {k n : Int} {out x : List Int} {a : Arr} (hl : (x.length : Int) = n) (h : ∀ p : Nat, (p : Int) < n → a.x.getD (fromS g k a.d (digF out p)).toNat 0 = x.getD p 0) : gatherS g k out a n.toNat = x := by
  unfold gatherS
  apply List.ext_getElem
  · rw [List.length_map, List.length_range]; omega
  · intro i h1 h2
    rw [List.getElem_map, List.getElem_range, h i (by omega), List.getD_eq_getElem?_getD, List.getElem?_eq_getElem h2]
    rfl
theorem do_app {a b : List Int} (ha : vL a) (hb : vL b) (hl : a.length + b.length ≤ 4096) : doA n_append 0 [listA a, listA b] = listA (a ++ b) := by
  have hd : dm ((a.length : Int) + b.length) := ⟨by omega, by omega⟩
  have h := app_fwd (op := n_append) (el := sInt) (ns := []) (num := 0) (cs := [listA a, listA b]) (d := [(a.length : Int) + b.length]) (.append _ _ ha.dm hb.dm) (v2 ha hb) (by rw [dz1 hd]) rfl
  refine (do_of h).trans ?_
  show (⟨sInt, [(a.length : Int) + b.length], [listA a, listA b].flatMap (·.x)⟩ : Arr) = _
  simp [listA]
theorem do_take {a : List Int} {k : Nat} (ha : vL a) (hk : k ≤ a.length) : doA n_take k [listA a] = listA (a.take k) := by
  have hl := ha.len
  have hd : dm (k : Int) := ⟨by omega, by omega⟩
  have h := app_fwd (op := n_take) (el := sInt) (ns := [(k : Int)]) (num := 0) (cs := [listA a]) (d := [(k : Int)]) (.take _ _ hd ha.dm (by omega)) (v1 ha) (by rw [dz1 hd]) rfl
  refine (do_of h).trans ?_
  show (⟨sInt, [(k : Int)], gatherS 107 k [(k : Int)] (listA a) (sizeS [(k : Int)]).1.toNat⟩ : Arr) = _
  rw [dz1 hd, gat_ext (x := a.take k) (by rw [List.length_take]; omega)]
  · unfold listA; rw [List.length_take, Nat.min_eq_left hk]
  · intro p hp
    rw [dig1]
    show a.getD (p : Int).toNat 0 = _
    rw [Int.toNat_natCast, List.getD_eq_getElem?_getD, List.getD_eq_getElem?_getD, List.getElem?_take_of_lt (by omega)]
theorem do_drop {a : List Int} {k : Nat} (ha : vL a) (hk : k ≤ a.length) : doA n_drop k [listA a] = listA (a.drop k) := by
  have hl := ha.len
  have hd : dm (k : Int) := ⟨by omega, by omega⟩
  have hd2 : dm ((a.length : Int) - k) := ⟨by omega, by omega⟩
  have h := app_fwd (op := n_drop) (el := sInt) (ns := [(k : Int)]) (num := 0) (cs := [listA a]) (d := [(a.length : Int) - k]) (.drop _ _ hd ha.dm (by omega)) (v1 ha) (by rw [dz1 hd2]) rfl
  refine (do_of h).trans ?_
  show (⟨sInt, [(a.length : Int) - k], gatherS 109 k [(a.length : Int) - k] (listA a) (sizeS [(a.length : Int) - k]).1.toNat⟩ : Arr) = _
  rw [dz1 hd2, gat_ext (x := a.drop k) (by rw [List.length_drop]; omega)]
  · unfold listA; rw [List.length_drop]; congr 2; omega
  · intro p hp
    rw [dig1]
    show a.getD ((p : Int) + k).toNat 0 = _
    rw [show ((p : Int) + k).toNat = k + p by omega, List.getD_eq_getElem?_getD, List.getD_eq_getElem?_getD, List.getElem?_drop]
theorem do_rev {a : List Int} (ha : vL a) : doA n_reverse 0 [listA a] = listA a.reverse := by
  have hl := ha.len
  have h := app_fwd (op := n_reverse) (el := sInt) (ns := []) (num := 0) (cs := [listA a]) (d := [(a.length : Int)]) (.reverse _ ha.dm) (v1 ha) (by rw [dz1 ha.dm]) rfl
  refine (do_of h).trans ?_
  show (⟨sInt, [(a.length : Int)], gatherS 111 0 [(a.length : Int)] (listA a) (sizeS [(a.length : Int)]).1.toNat⟩ : Arr) = _
  rw [dz1 ha.dm, gat_ext (x := a.reverse) (by rw [List.length_reverse])]
  · unfold listA; rw [List.length_reverse]
  · intro p hp
    rw [dig1]
    show a.getD ((a.length : Int) - 1 - p).toNat 0 = _
    rw [show ((a.length : Int) - 1 - p).toNat = a.length - 1 - p by omega, List.getD_eq_getElem?_getD, List.getD_eq_getElem?_getD, List.getElem?_reverse (by omega)]
/-- The rows of a list. -/
def winD (a : List Int) (k : Nat) : List Int := (List.range ((a.length - k + 1) * k)).map fun (p : Nat) => a.getD (p / k + p % k) 0
theorem winD_len {a : List Int} {k : Nat} : (winD a k).length = (a.length - k + 1) * k := by simp [winD]
theorem do_win {a : List Int} {k : Nat} (ha : vL a) (hk : k ≤ a.length) (hs : (a.length - k + 1) * k ≤ 4096) (hn : a.length < 4096) : doA n_windows k [listA a] = ⟨sInt, [(a.length : Int) - k + 1, (k : Int)], winD a k⟩ := by
  have hd : dm (k : Int) := ⟨by omega, by omega⟩
  have hd2 : dm ((a.length : Int) - k + 1) := ⟨by omega, by omega⟩
  have e : ((a.length : Int) - k + 1) * k = (((a.length - k + 1) * k : Nat) : Int) := by
    rw [Int.natCast_mul]; congr 1; omega
  have hz := dz2 hd2 hd (by rw [e]; omega)
  have h := app_fwd (op := n_windows) (el := sInt) (ns := [(k : Int)]) (num := 0) (cs := [listA a]) (d := [(a.length : Int) - k + 1, (k : Int)]) (.windows _ _ hd ha.dm (by omega)) (v1 ha) (by rw [hz]) rfl
  refine (do_of h).trans ?_
  show (⟨sInt, [(a.length : Int) - k + 1, (k : Int)], gatherS 118 k [(a.length : Int) - k + 1, (k : Int)] (listA a) (sizeS [(a.length : Int) - k + 1, (k : Int)]).1.toNat⟩ : Arr) = _
  rw [hz, gat_ext (x := winD a k) (by rw [winD_len, e])]
  intro p hp
  rw [dig2]
  show a.getD ((p : Int) / k + (p : Int) % k).toNat 0 = _
  rw [show ((p : Int) / k + (p : Int) % k) = ((p / k + p % k : Nat) : Int) by push_cast; rfl, Int.toNat_natCast]
  rw [e] at hp
  unfold winD
  rw [List.getD_eq_getElem?_getD (l := List.map _ _), List.getElem?_map, List.getElem?_range (by omega)]
  rfl
theorem win_row {a : List Int} {k i : Nat} (h : i + k ≤ a.length) : ((winD a k).drop (i * k)).take k = (a.drop i).take k := by
  apply List.ext_getElem?
  intro j
  by_cases hj : j < k
  · rw [List.getElem?_take_of_lt hj, List.getElem?_take_of_lt hj, List.getElem?_drop, List.getElem?_drop]
    unfold winD
    have h1 : i * k + j < (a.length - k + 1) * k := by
      have : (i + 1) * k ≤ (a.length - k + 1) * k := Nat.mul_le_mul_right _ (by omega)
      rw [Nat.add_mul, Nat.one_mul] at this
      omega
    rw [List.getElem?_map, List.getElem?_range h1]
    have e1 : (i * k + j) / k = i := by
      rw [Nat.mul_comm, Nat.mul_add_div (by omega), Nat.div_eq_of_lt hj]; rfl
    have e2 : (i * k + j) % k = j := by
      rw [Nat.mul_comm, Nat.mul_add_mod, Nat.mod_eq_of_lt hj]
    show some (a.getD ((i * k + j) / k + (i * k + j) % k) 0) = a[i + j]?
    rw [e1, e2, List.getD_eq_getElem?_getD, List.getElem?_eq_getElem (by omega)]
    rfl
  · rw [List.getElem?_eq_none (by rw [List.length_take]; omega), List.getElem?_eq_none (by rw [List.length_take]; omega)]
theorem chunk_app {a : List Int} {k : Nat} (ha : vL a) (h1 : 1 ≤ k) (h64 : k ≤ 64) (hm : a.length % k = 0) : applyS n_chunk [] k [listA a] = (⟨sInt, [(a.length : Int) / k, (k : Int)], a⟩, false, 0) := by
  have hl := ha.len
  have hq : a.length / k * k = a.length := by have := Nat.mod_add_div a.length k; rw [hm, Nat.mul_comm] at this; omega
  have hqi : ((a.length / k : Nat) : Int) * (k : Int) = a.length := by rw [← Int.natCast_mul, hq]
  have hle : a.length / k ≤ a.length := Nat.div_le_self ..
  have hd : dm (k : Int) := ⟨by omega, by omega⟩
  have hd2 : dm ((a.length / k : Nat) : Int) := ⟨Int.natCast_nonneg _, Int.ofNat_le.2 (Nat.le_trans hle hl)⟩
  have hz := dz2 hd2 hd (by rw [hqi]; omega)
  rw [hqi] at hz
  have hS : Shp n_chunk [] k ([listA a].map Arr.d) [((a.length / k : Nat) : Int), (k : Int)] := by
    have := Shp.chunk (k : Int) ((a.length / k : Nat) : Int) (by omega) (by omega) hd2 (by rw [hqi]; exact ha.dm)
    rw [hqi] at this
    exact this
  have h := app_fwd (op := n_chunk) (el := sInt) (ns := []) (num := (k : Int)) (cs := [listA a]) hS (v1 ha) (by rw [hz]) rfl
  rw [h]
  have hg : ((givenS n_chunk (([] : List Int).length : Int) (k : Int) ([listA a].length : Int)).1.from_.getD 0) = 120 := by
    unfold givenS
    rw [show findS n_chunk _ = (ents.getD 9 ent0, true) from rfl]
    rw [if_neg (by simp), if_neg (by simp [ents, wantS]; intro _; rfl)]
    rfl
  rw [hg]
  show (((⟨sInt, [((a.length / k : Nat) : Int), (k : Int)], gatherS 120 k [((a.length / k : Nat) : Int), (k : Int)] (listA a) (sizeS [((a.length / k : Nat) : Int), (k : Int)]).1.toNat⟩ : Arr), false, 0) : Arr × Bool × Int) = _
  rw [hz, gat_ext (x := a) rfl]
  · rfl
  · intro p hp
    rw [dig2]
    show a.getD ((p : Int) / k * k + (p : Int) % k).toNat 0 = _
    rw [show (p : Int) / k * k + (p : Int) % k = p by have := Int.emod_add_mul_ediv (p : Int) k; rw [Int.mul_comm] at this; omega, Int.toNat_natCast]
end Go.Proofs.Ytjlcbojpiieafaa
