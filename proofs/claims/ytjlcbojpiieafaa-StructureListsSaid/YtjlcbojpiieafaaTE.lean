/- What Apply gives, from both sides. -/
import Derived.Test.YtjlcbojpiieafaaTD

set_option linter.all false

namespace Go.Proofs.Ytjlcbojpiieafaa
open Go Go.Fw

theorem val_of {cs : List Arr} (h : cs.all valA = true) : ∀ a ∈ cs, ofE a = 0 := fun a ha => by
  rw [List.all_eq_true] at h
  exact beq_iff_eq.1 (h a ha)
theorem all_val {cs : List Arr} (h : ∀ a ∈ cs, ofE a = 0) : cs.all valA = true := by
  rw [List.all_eq_true]
  intro a ha
  unfold valA
  rw [h a ha]; rfl
/-- The result of Apply without an error. -/
structure AppI (op : ByteArray) (ns : List Int) (num : Int) (cs : List Arr) (R : Arr × Bool × Int) : Prop where
  ok : R.2.2 = 0
  val : ofE R.1 = 0
  res : resultS op (cs.map (·.e)) = (R.1.e, true)
  dim : dimsI op ns num (cs.map (·.d)) = (R.1.d, 0)
  all : ∀ a ∈ cs, ofE a = 0
  shp : Shp op ns num (cs.map (·.d)) R.1.d
  giv : (givenS op ns.length num cs.length).2 = 0
  x : R.1.x = (dataS op (sizeK ns num) R.1.d cs ((givenS op ns.length num cs.length).1.from_.getD 0)).1
  b : R.2.1 = (dataS op (sizeK ns num) R.1.d cs ((givenS op ns.length num cs.length).1.from_.getD 0)).2
theorem app_inv (op : ByteArray) (ns : List Int) (num : Int) (cs : List Arr) :
    ((applyS op ns num cs).2.2 ≠ 0 ∧ (applyS op ns num cs).1 = nilA ∧ (applyS op ns num cs).2.1 = false) ∨ AppI op ns num cs (applyS op ns num cs) := by
  generalize hR : applyS op ns num cs = R
  unfold applyS at hR
  by_cases h0 : (givenS op ns.length num cs.length).2 = 0
  · rw [if_neg (by simpa using h0)] at hR
    cases hA : cs.all valA with
    | false => rw [if_pos hA] at hR; subst hR; exact .inl ⟨by decide, rfl, rfl⟩
    | true =>
      rw [if_neg (by rw [hA]; simp)] at hR
      have hv := val_of hA
      unfold applyT at hR
      cases hq : (resultS op (cs.map (·.e))).2 with
      | false => rw [if_pos hq] at hR; subst hR; exact .inl ⟨by decide, rfl, rfl⟩
      | true =>
        rw [if_neg (by rw [hq]; simp)] at hR
        by_cases hd : (dimsI op ns num (cs.map (·.d))).2 = 0
        · rw [if_neg (by simpa using hd)] at hR
          right
          have hD : dimsI op ns num (cs.map (·.d)) = ((dimsI op ns num (cs.map (·.d))).1, 0) := Prod.ext rfl hd
          have hQ : resultS op (cs.map (·.e)) = ((resultS op (cs.map (·.e))).1, true) := Prod.ext rfl hq
          have hG : givenS op ns.length num cs.length = ((givenS op ns.length num cs.length).1, 0) := Prod.ext rfl h0
          obtain ⟨s1, s2, -, -⟩ := shp_of hD
          obtain ⟨t1, t2, t3, -, -⟩ := data_ok s1 hv s2 hG hQ
          subst hR
          exact ⟨rfl, of_ok t1 s2 t2 t3, hQ, hD, hv, s1, h0, rfl, rfl⟩
        · rw [if_pos (by simpa using hd)] at hR; subst hR; exact .inl ⟨hd, rfl, rfl⟩
  · rw [if_pos (by simpa using h0)] at hR; subst hR; exact .inl ⟨h0, rfl, rfl⟩
theorem app_okA (op : ByteArray) (ns : List Int) (num : Int) (cs : List Arr) : okA (applyS op ns num cs).1 := by
  rcases app_inv op ns num cs with ⟨_, h, _⟩ | h
  · rw [h]; exact ⟨by simp [nilA], by simp [nilA]⟩
  · have h1 := (ofE_inv h.val).2.1
    have h2 := sizeS_ok h1
    exact ⟨by omega, by omega⟩
theorem szErr_val : ∀ {cs : List Arr}, (∀ a ∈ cs, ofE a = 0) → szErr (cs.map Arr.d) = 0
  | [], _ => rfl
  | a :: t, h => by
    have h1 := (ofE_inv (h a (by simp))).2.1
    rw [List.map_cons, szErr, h1, if_neg (by simp)]
    exact szErr_val fun b hb => h b (by simp [hb])
theorem rk_rep : ∀ m : Nat, rkBad (List.replicate m []) (List.replicate m 0) = false
  | 0 => rfl
  | m + 1 => by rw [List.replicate_succ, List.replicate_succ, rkBad, if_neg (by simp), rk_rep m]
theorem maxI1 {m : Nat} (h : 1 ≤ m) : maxI (m : Int) 1 = m := by unfold maxI; rw [if_neg (by omega)]
theorem giv_fwd {op : ByteArray} {ns : List Int} {num : Int} {ds : List (List Int)} {d : List Int} (h : Shp op ns num ds d) : (givenS op ns.length num ds.length).2 = 0 := by
  cases h with
  | chunk c q h1 h2 h3 h4 => unfold givenS; rw [show findS n_chunk _ = (ents.getD 9 ent0, true) from rfl]; rw [if_neg (by simp), if_neg (by simp [ents, wantS]; intro _; rfl)]
  | pack m h1 h2 =>
    unfold givenS
    rw [show findS n_pack _ = (packE _, true) from rfl]
    rw [if_neg (by simp), if_neg]
    simp only [packE, wantS, List.length_replicate, maxI1 h1]
    simp
  | _ => rfl
theorem dim_fwd {op : ByteArray} {ns : List Int} {num : Int} {ds : List (List Int)} {d : List Int} (h : Shp op ns num ds d) (hz : szErr ds = 0) (hd : (sizeS d).2 = 0) : dimsI op ns num ds = (d, 0) := by
  have hg := giv_fwd h
  unfold dimsI
  rw [if_neg (by simpa using hg)]
  have fin : ∀ {e : Ent}, (givenS op ns.length num ds.length).1 = e → rkBad ds e.ranks = false → dimsS (e.dims.getD 0) (sizeK ns num) ds = (d, 0) →
      (if rkBad ds (givenS op ns.length num ds.length).1.ranks = true then (([] : List Int), (13 : Int)) else if szErr ds ≠ 0 then ([], szErr ds) else dimsOf (givenS op ns.length num ds.length).1 (sizeK ns num) ds) = (d, 0) := by
    intro e he h1 h2
    rw [he, if_neg (by rw [h1]; simp), if_neg (by simpa using hz)]
    unfold dimsOf
    rw [h2, if_neg (by simp), if_neg (by simpa using hd)]
  have g1 : ∀ {e : Ent}, findS op ds.length = (e, true) → (givenS op ns.length num ds.length).1 = e := by
    intro e he
    exact giv_e (given_ok (Prod.ext rfl hg : givenS op ns.length num ds.length = ((givenS op ns.length num ds.length).1, 0))).2.2.2.2.2 he
  have pk : ∀ {k n : Int}, 0 ≤ k → k ≤ n → partS k n = 0 := fun h1 h2 => by unfold partS; rw [if_neg (by omega)]
  cases h with
  | iota k hk => exact fin (g1 (e := ents.getD 0 ent0) rfl) rfl (by simp only [ents, List.getD_cons_zero, Option.getD_some, dimsS, sizeK]; simp [pk hk.1 (show k ≤ maxI k 0 by unfold maxI; split <;> omega)])
  | fill k hk => exact fin (g1 (e := ents.getD 1 ent0) rfl) rfl (by simp only [ents, List.getD_cons_zero, List.getD_cons_succ, Option.getD_some, dimsS, sizeK]; simp [pk hk.1 (show k ≤ maxI k 0 by unfold maxI; split <;> omega)])
  | take k n hk hn hkn => exact fin (g1 (e := ents.getD 2 ent0) rfl) rfl (by simp only [ents, List.getD_cons_zero, List.getD_cons_succ, Option.getD_some, dimsS, sizeK]; simp [pk hk.1 hkn])
  | drop k n hk hn hkn => exact fin (g1 (e := ents.getD 3 ent0) rfl) rfl (by
      have := hk.1; have := hn.2; have := hk.2; have := hn.1
      simp only [ents, List.getD_cons_zero, List.getD_cons_succ, Option.getD_some, dimsS, sizeK]; simp [pk hk.1 hkn, w64_dm (show -9000000000000 ≤ n - k ∧ n - k ≤ 9000000000000 by omega)])
  | reverse n hn => exact fin (g1 (e := ents.getD 4 ent0) rfl) rfl rfl
  | append m n hm hn => exact fin (g1 (e := ents.getD 5 ent0) rfl) rfl rfl
  | transpose m n hm hn => exact fin (g1 (e := ents.getD 6 ent0) rfl) rfl rfl
  | diagonal n hn => exact fin (g1 (e := ents.getD 7 ent0) rfl) rfl (by simp only [ents, List.getD_cons_zero, List.getD_cons_succ, Option.getD_some, dimsS]; simp)
  | windows k n hk hn hkn => exact fin (g1 (e := ents.getD 8 ent0) rfl) rfl (by
      have := hk.1; have := hn.2; have := hk.2; have := hn.1
      simp only [ents, List.getD_cons_zero, List.getD_cons_succ, Option.getD_some, dimsS, sizeK]
      simp [pk hk.1 hkn, w64_dm (show -9000000000000 ≤ n - k ∧ n - k ≤ 9000000000000 by omega), w64_dm (show -9000000000000 ≤ n - k + 1 ∧ n - k + 1 ≤ 9000000000000 by omega)])
  | chunk c q hc1 hc2 hq hn => exact fin (g1 (e := ents.getD 9 ent0) rfl) rfl (by
      have e1 : (q * num).tmod num = 0 := Int.mul_tmod_left ..
      have e2 : (q * num).tdiv num = q := Int.mul_tdiv_cancel _ (by omega)
      simp only [ents, List.getD_cons_zero, List.getD_cons_succ, Option.getD_some, dimsS, sizeK, reduceIte, e1, e2]
      rw [if_neg (by omega), if_neg (by simp)])
  | index n hn => exact fin (g1 (e := ents.getD 10 ent0) rfl) rfl rfl
  | update n hn => exact fin (g1 (e := ents.getD 11 ent0) rfl) rfl rfl
  | pack m h1 h2 => exact fin (g1 (e := packE _) rfl) (by simp only [packE, List.length_replicate, maxI1 h1]; exact rk_rep m) (by simp [packE, dimsS])
theorem app_fwd {op el : ByteArray} {ns : List Int} {num : Int} {cs : List Arr} {d : List Int} (h : Shp op ns num (cs.map Arr.d) d) (hv : ∀ a ∈ cs, ofE a = 0) (hd : (sizeS d).2 = 0) (hr : resultS op (cs.map (·.e)) = (el, true)) :
    applyS op ns num cs = (⟨el, d, (dataS op (sizeK ns num) d cs ((givenS op ns.length num cs.length).1.from_.getD 0)).1⟩, (dataS op (sizeK ns num) d cs ((givenS op ns.length num cs.length).1.from_.getD 0)).2, 0) := by
  have hg := giv_fwd h
  rw [List.length_map] at hg
  have hD := dim_fwd h (szErr_val hv) hd
  unfold applyS
  rw [if_neg (by simpa using hg), if_neg (by rw [all_val hv]; simp)]
  unfold applyT
  rw [show (cs.map fun x => x.d) = cs.map Arr.d from rfl, hr, hD, if_neg (by simp), if_neg (by simp)]
end Go.Proofs.Ytjlcbojpiieafaa
