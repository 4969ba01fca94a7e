/- A common frame does not depend on the order: plain facts. -/
import Derived.Test.YtjlcbojpiieafaaCE
import Derived.Test.YtjlcbojpiieafaaCI
import Derived.Test.YtjlcbojpiieafaaCK

set_option linter.all false

namespace Go.Proofs.Ytjlcbojpiieafaa
open Go Go.Fw

abbrev Sp := List Int × List Int × Int
def frameH : List Sp → List Int → List Bool → List Int × List Bool × Int
  | s :: sp, fr, fd =>
    if s.2.2 ≠ 0 then ([], [], s.2.2)
    else if s.1 = [] then frameH sp fr (fd ++ [false])
    else if fr = [] then frameH sp s.1 (fd ++ [true])
    else if s.1.length ≠ fr.length then ([], [], 13)
    else if s.1 ≠ fr then ([], [], 14)
    else frameH sp fr (fd ++ [true])
  | [], fr, fd => (fr, fd, 0)
theorem frameG_H : ∀ (l : List Arr) (rs : List Int) (fr : List Int) (fd : List Bool), frameG l rs fr fd = frameH (List.zipWith splitS l rs) fr fd
  | [], _, _, _ => by simp [frameG, frameH]
  | _ :: _, [], _, _ => by simp [frameG, frameH]
  | a :: l, r :: rs, fr, fd => by simp only [List.zipWith_cons_cons, frameG, frameH, frameG_H l rs]
def compat (F : List Int) (sp : List Sp) : Prop := ∀ s ∈ sp, s.2.2 = 0 ∧ (s.1 = [] ∨ s.1 = F)
theorem compat_cons {F : List Int} {s : Sp} {sp : List Sp} (h : s.2.2 = 0) (h1 : s.1 = [] ∨ s.1 = F) (h2 : compat F sp) : compat F (s :: sp) := fun x hx => by
  rcases List.mem_cons.1 hx with rfl | hx
  · exact ⟨h, h1⟩
  · exact h2 x hx
def fdOf (sp : List Sp) : List Bool := sp.map fun s => decide (s.1 ≠ [])
theorem frameH_ok : ∀ {sp : List Sp} {fr : List Int} {fd : List Bool} {F : List Int} {fd' : List Bool}, frameH sp fr fd = (F, fd', 0) →
    compat F sp ∧ (fr = [] ∨ fr = F) ∧ (F = fr ∨ ∃ s ∈ sp, s.1 = F) ∧ fd' = fd ++ fdOf sp
  | [], fr, fd, F, fd', h => by
    simp only [frameH, Prod.mk.injEq] at h
    obtain ⟨rfl, rfl, _⟩ := h
    exact ⟨fun s hs => by simp at hs, .inr rfl, .inl rfl, by simp [fdOf]⟩
  | s :: sp, fr, fd, F, fd', h => by
    unfold frameH at h
    split at h
    · rename_i he; simp only [Prod.mk.injEq] at h; exact absurd h.2.2 he
    rename_i he
    simp only [ne_eq, Decidable.not_not] at he
    have ex : (∃ x ∈ sp, x.1 = F) → ∃ x ∈ s :: sp, x.1 = F := fun ⟨x, hx, e⟩ => ⟨x, by simp [hx], e⟩
    split at h
    · rename_i h0
      obtain ⟨c, f1, f2, f3⟩ := frameH_ok h
      exact ⟨compat_cons he (.inl h0) c, f1, f2.imp id ex, by rw [f3]; simp [fdOf, h0]⟩
    rename_i h0
    split at h
    · rename_i h1
      obtain ⟨c, f1, f2, f3⟩ := frameH_ok h
      have hF : s.1 = F := f1.resolve_left h0
      exact ⟨compat_cons he (.inr hF) c, .inl h1, .inr ⟨s, by simp, hF⟩, by rw [f3]; simp [fdOf, h0]⟩
    rename_i h1
    split at h
    · simp only [Prod.mk.injEq] at h; exact absurd h.2.2 (by decide)
    split at h
    · simp only [Prod.mk.injEq] at h; exact absurd h.2.2 (by decide)
    · rename_i h3
      simp only [ne_eq, Decidable.not_not] at h3
      obtain ⟨c, f1, f2, f3⟩ := frameH_ok h
      have hF : fr = F := f1.resolve_left h1
      exact ⟨compat_cons he (.inr (h3.trans hF)) c, .inr hF, f2.imp id ex, by rw [f3]; simp [fdOf, h0]⟩
theorem frameH_yes : ∀ {sp : List Sp} {F fr : List Int} {fd : List Bool}, compat F sp → (fr = [] ∨ fr = F) → (frameH sp fr fd).2.2 = 0
  | [], _, _, _, _, _ => rfl
  | s :: sp, F, fr, fd, c, h => by
    have hs := c s (by simp)
    have c' : compat F sp := fun x hx => c x (by simp [hx])
    unfold frameH
    rw [if_neg (by simpa using hs.1)]
    split
    · exact frameH_yes c' h
    · rename_i h0
      have hF := hs.2.resolve_left h0
      split
      · exact frameH_yes c' (.inr hF)
      · rename_i h1
        have hf := h.resolve_left h1
        rw [if_neg (by rw [hF, hf]; simp), if_neg (by rw [hF, hf]; simp)]
        exact frameH_yes c' h
theorem frameH_split {sp : List Sp} (h : (frameH sp [] []).2.2 = 0) : ∃ F, frameH sp [] [] = (F, fdOf sp, 0) ∧ compat F sp ∧ (F = [] ∨ ∃ s ∈ sp, s.1 = F) := by
  have e : frameH sp [] [] = ((frameH sp [] []).1, (frameH sp [] []).2.1, 0) := Prod.ext rfl (Prod.ext rfl h)
  obtain ⟨c, _, f2, f3⟩ := frameH_ok e
  exact ⟨_, by rw [e, f3]; simp, c, f2⟩
theorem compat_rev {F : List Int} {sp : List Sp} (h : compat F sp) : compat F (sp.reverse ++ [([], [], 0)]) := fun s hs => by
  rcases List.mem_append.1 hs with hs | hs
  · exact h s (List.mem_reverse.1 hs)
  · rw [List.mem_singleton] at hs; rw [hs]; exact ⟨rfl, .inl rfl⟩
theorem compat_of_rev {F : List Int} {sp : List Sp} (h : compat F (sp.reverse ++ [([], [], 0)])) : compat F sp := fun s hs => h s (by simp [hs])
theorem frame_rev {sp : List Sp} {F : List Int} {fd : List Bool} (h : frameH sp [] [] = (F, fd, 0)) : ∃ fd', frameH (sp.reverse ++ [([], [], 0)]) [] [] = (F, fd', 0) := by
  obtain ⟨c, _, f2, _⟩ := frameH_ok h
  obtain ⟨F', e, c', f2'⟩ := frameH_split (frameH_yes (fd := []) (compat_rev c) (.inl rfl))
  refine ⟨fdOf (sp.reverse ++ [([], [], 0)]), ?_⟩
  rw [e]
  congr 1
  have c2 := compat_of_rev c'
  by_cases hF' : F' = []
  · rcases f2 with f2 | ⟨s, hs, f2⟩
    · rw [hF', f2]
    · rcases (c2 s hs).2 with h1 | h1
      · rw [hF', ← f2, h1]
      · rw [← h1, f2]
  · obtain ⟨s, hs, f3⟩ := f2'.resolve_left hF'
    rcases List.mem_append.1 hs with hs | hs
    · rcases (c s (List.mem_reverse.1 hs)).2 with h1 | h1
      · exact absurd (f3.symm.trans h1) hF'
      · exact f3.symm.trans h1
    · rw [List.mem_singleton] at hs
      rw [hs] at f3
      exact absurd f3.symm hF'
theorem frame_rev_no {sp : List Sp} (h : (frameH sp [] []).2.2 ≠ 0) : (frameH (sp.reverse ++ [([], [], 0)]) [] []).2.2 ≠ 0 := fun e => by
  obtain ⟨F', _, c', _⟩ := frameH_split e
  exact h (frameH_yes (compat_of_rev c') (.inl rfl))

/-! ### Checks that hold -/
def rng (n : Nat) : List Int := (List.range n).map fun i : Nat => Int.ofNat i
theorem rng_len (n : Nat) : (rng n).length = n := by simp [rng]
theorem rng_succ (n : Nat) : rng n ++ [(n : Int)] = rng (n + 1) := by simp [rng, List.range_succ]
theorem rng_getD {n i : Nat} (h : i < n) : (rng n).getD i 0 = i := by simp [rng, List.getD, h]
def axesOf (F : List Int) (fd : List Bool) : List (List Int) := fd.map fun b => if b = true then rng F.length else []
theorem pick_nil (F : List Int) : pickS F [] = some [] := by
  unfold pickS
  rw [if_pos (by intro i hi; simp at hi)]
  rfl
theorem pick_rng (F : List Int) : pickS F (rng F.length) = some F := by
  unfold pickS
  rw [if_pos ?_]
  · congr 1
    apply List.ext_getElem?
    intro i
    unfold pickM rng
    rw [List.map_map, List.getElem?_map]
    by_cases h : i < F.length
    · simp [h]
    · simp [h]
  · intro i hi
    rw [rng_len] at hi
    unfold axOk
    rw [rng_getD hi]
    have h1 : decide ((i : Int) < 0) = false := decide_eq_false (by omega)
    have h2 : decide ((i : Int) ≥ (F.length : Int)) = false := decide_eq_false (by omega)
    rw [h1, h2]
    by_cases h3 : i > 0
    · rw [rng_getD (show i - 1 < F.length by omega)]
      have : decide (((i - 1 : Nat) : Int) ≥ (i : Int)) = false := decide_eq_false (by omega)
      rw [this]; simp
    · have : decide ((i : Int) > 0) = false := decide_eq_false (by omega)
      rw [this]; rfl
theorem check_ok {F : List Int} {a : Arr} {r : Int} (h : (splitS a r).2.2 = 0) (h1 : (splitS a r).1 = [] ∨ (splitS a r).1 = F) :
    checkS F (if decide ((splitS a r).1 ≠ []) = true then rng F.length else []) r a = 0 := by
  have e : splitS a r = ((splitS a r).1, (splitS a r).2.1, 0) := Prod.ext rfl (Prod.ext rfl h)
  generalize (splitS a r).1 = f at e h1
  generalize (splitS a r).2.1 = c at e
  obtain ⟨h0, hd, hr0, hr⟩ := splitS_inv e
  unfold checkS
  by_cases hf : f = []
  · subst hf
    rw [if_neg (by simp), pick_nil]
    simp only
    rw [if_neg (by simpa using h0), if_neg (by rw [hd]; simp; omega)]
    simp
  · have hF := h1.resolve_left hf
    subst hF
    rw [if_pos (by simpa using hf), pick_rng]
    simp only
    rw [if_neg (by simpa using h0), rng_len, if_neg (by rw [hd]; simp only [List.length_append]; omega), hd, List.take_left, if_neg (by simp)]
theorem chk_ok {F : List Int} : ∀ {l : List Arr} {rs : List Int}, compat F (List.zipWith splitS l rs) → chkG F (axesOf F (fdOf (List.zipWith splitS l rs))) rs l = 0
  | [], _, _ => by simp [chkG]
  | _ :: _, [], _ => by simp [chkG]
  | a :: l, r :: rs, c => by
    rw [List.zipWith_cons_cons] at c ⊢
    have hs := c _ (List.mem_cons_self ..)
    have hk := check_ok hs.1 hs.2
    have ih := chk_ok (l := l) (rs := rs) fun x hx => c x (by simp [hx])
    simp only [fdOf, axesOf, List.map_cons, chkG] at ih ⊢
    rw [if_neg (by rw [hk]; simp), ih]
theorem fdOf_zip {l : List Arr} {rs : List Int} (h : l.length = rs.length) : (fdOf (List.zipWith splitS l rs)).length = l.length := by
  unfold fdOf
  simp only [List.length_map, List.length_zipWith]; omega
theorem axesOf_len {F : List Int} {fd : List Bool} : ∀ x ∈ axesOf F fd, x.length ≤ F.length := fun x hx => by
  obtain ⟨b, _, rfl⟩ := List.mem_map.1 hx
  split
  · rw [rng_len]; omega
  · simp
end Go.Proofs.Ytjlcbojpiieafaa

/- The law on agreement. -/
namespace Go.Proofs.Ytjlcbojpiieafaa
open Go Go.Fw

theorem le_freeze {n0 : Nat} {f : Nat → AV} {σ : List AObj} (i : Nat) {o e sz ver : Nat} {xs : List AV} (h : f i = .arr o ver) (ho : σ[o]? = some (.arr e sz xs ver false)) : Le n0 ⟨f, σ⟩ ⟨upd f i (.sl false sz xs), σ.set o (.arr e sz xs ver true)⟩ := by
  intro cx G w N a _ hr hf
  obtain ⟨G', h1, h2⟩ := Rel.freezeO hr o
  have e1 : Fw.freezeO σ o = σ.set o (.arr e sz xs ver true) := by unfold Fw.freezeO; rw [ho]
  rw [e1] at h2
  refine ⟨G', h2, hf.size, hf.defers, fun j => ?_⟩
  have hj : R G' (f j) (a.tmps.getD j undef) := (hf.rel j).mono h1
  simp only [upd]
  split
  · rename_i e2; subst e2; rw [h] at hj
    have hc : Fw.arrOf false (σ.set o (.arr e sz xs ver true)) o ver = some (.sl false sz xs) := by unfold Fw.arrOf; rw [get_set ho]; simp
    have := arrOf_sound (live := false) h2 hj hc
    exact .clo _ _ (by simpa using this)
  · exact hj
theorem arrs_app {l : List Arr} {e : ByteArray} {d x : List Int} : arrs l ++ [.agg [.lit (.string e), .sl false 1 (ints .i64 d), .sl false 1 (ints .i64 x)]] = arrs (l ++ [⟨e, d, x⟩]) := by simp [arrs, arrV]
noncomputable def E28 : Env := envOf (P := Try.prog) zer (fun _ => false) (fun _ => false) [con15, con16, con17, con19, con27, con29, con30] []
theorem E28_ok : EnvOk Try.prog E28 := envOk zer_ok
theorem take_app {α : Type} {l : List α} {i : Nat} (h : i < l.length) : l.take i ++ [l[i]] = l.take (i + 1) := by rw [List.take_add_one, List.getElem?_eq_getElem h]; rfl
theorem rev_getD {α : Type} {l : List α} {j : Nat} (z : α) (h : j < l.length) : l.reverse.take j ++ [l.getD (l.length - 1 - j) z] = l.reverse.take (j + 1) := by
  rw [List.take_add_one, List.getElem?_eq_getElem (by simpa using h), List.getElem_reverse]
  congr 1
  rw [List.getD_eq_getElem?_getD, List.getElem?_eq_getElem (by omega)]
  rfl
abbrev z0 : Arr := ⟨sInt, [], zz 1⟩
theorem frame_zip {l : List Arr} {rs : List Int} (h : rs.length = l.length) : frameS l rs = frameH (List.zipWith splitS l rs) [] [] := by
  unfold frameS; rw [if_neg (by omega), frameG_H]
theorem frame_zip_rev {l : List Arr} {rs : List Int} (h : rs.length = l.length) : frameS (l.reverse ++ [z0]) (rs.reverse ++ [0]) = frameH ((List.zipWith splitS l rs).reverse ++ [([], [], 0)]) [] [] := by
  rw [frame_zip (by simp [h]), List.zipWith_append (by simp [h]), List.reverse_zipWith (by omega)]
  rfl
set_option maxRecDepth 20000 in
set_option maxHeartbeats 8000000 in
theorem agree_law_pc {l : List Arr} {rs : List Int} (hm : l.length ≤ 9223372036854775807) (hr : ∀ r ∈ rs, inI64 r) : PC Try.prog 6 [.sl false 3 (arrs l), .sl false 1 (ints .i64 rs)] (.lit (.bool true)) := by
  by_cases hf : fewL l = true
  · by_cases hn : rs.length = l.length
    · have n1 : ((rs.length : Int) != (l.length : Int)) = false := by rw [bne_eq_false_iff_eq]; omega
      have h4 := (fewL_spec hf).1
      have hlen := frameS_len (rs := rs) (fewL_ok hf)
      have hz1 := frame_zip hn
      have hz2 := frame_zip_rev hn
      generalize hF : frameS l rs = p at hlen hz1
      obtain ⟨F, fd, er⟩ := p
      simp only at hlen
      generalize hF2 : frameS (l.reverse ++ [z0]) (rs.reverse ++ [0]) = p at hz2
      obtain ⟨F2, fd2, e2⟩ := p
      have hz : zerosS sInt [] = (z0, 0) := rfl
      have hor : ∀ a ∈ l.reverse ++ [z0], okA a := fun a ha => by
        rcases List.mem_append.1 ha with h | h
        · exact fewL_ok hf a (List.mem_reverse.1 h)
        · rw [List.mem_singleton] at h; rw [h]; exact okA_zz (by simp) (by omega)
      have hrr : ∀ r ∈ rs.reverse ++ [0], inI64 r := fun r h => by
        rcases List.mem_append.1 h with h | h
        · exact hr r (List.mem_reverse.1 h)
        · rw [List.mem_singleton] at h; rw [h]; exact inI64_small (by omega)
      refine pc_of E28_ok mixed (fun _ => [0, 1, 4, 5, 6, 7, 8, 9, 10, 11, 13, 15, 16, 17, 18, 19, 21, 31, 43, 73, 90, 97, 99, 100, 101, 104, 105, 106, 111]) Try.func6 rfl (by kernel_rfl) (Nat.le_of_ble_eq_true rfl) ?_
      simp only [initF_cons, initF_nil, Nat.reduceAdd]
      refine t_name fun KF => ?_
      unfold E28
      repeat' (first
        | with_reducible refine t_seq fun K => ?_
        | with_reducible refine t_block ?_
        | with_reducible refine t_scope ?_
        | with_reducible refine t_label ?_
        | with_reducible refine t_skip ?_
        | with_reducible refine t_exit ?_
        | with_reducible refine t_ret ?_
        | with_reducible refine t_k ?_
        | (with_reducible refine t_gF ?_)
        | ((first | with_reducible refine t_kE ?_ | with_reducible refine t_kD ?_ | with_reducible refine t_gS ?_ | with_reducible refine t_kL ?_ | (with_reducible refine t_kLE ?_ ?_; rotate_left) | with_reducible refine t_region fun K => ?_ | with_reducible refine t_drawE (id := 11) (fun _ => true) [(0, true), (1, true), (2, true), (3, true), (4, true), (5, true), (7, true), (8, true), (9, true), (10, true), (11, true), (12, true), (6, false), (13, false), (14, true), (15, true)] (by kernel_rfl) fun K => ?_ | with_reducible refine t_draw (by kernel_rfl) fun K => ?_); simp only [go_sem, Int.cast_ofNat_Int, Nat.reduceEqDiff, reduceIte, Nat.reduceAdd, Nat.reduceMul, Nat.reduceLeDiff, Nat.reduceSub, Nat.reduceLT, Nat.zero_lt_succ, Int.reduceToNat, Int.reduceAdd, Int.reduceSub, Int.reduceMul, Int.reduceNeg, Int.reduceLT, Int.reduceLE, Int.reduceEq, Int.reduceBEq, Int.reduceBNe, Nat.reduceBEq, List.reduceReplicate, con15_f, con16_f, con17_f, con19_f, con27_f, con29_f, con30_f, con15_c, con16_c, con17_c, arrsOf_sl, slK_sl, hf, n1, hF, frV_def, arrs_length, Bool.not_true])
        | (with_reducible exact kp_nil)
        | (with_reducible exact Kp.refl _)
        | (with_reducible exact kp_to)
        | (with_reducible refine kp_cons ?_)
        | (with_reducible refine kp_arr ?_)
        | (with_reducible refine kp_app ?_)
        | ((with_reducible refine kp_skip ?_ ?_); rfl)
        | ((with_reducible refine t_cond fun A B => ?_); simp only [go_sem, Int.cast_ofNat_Int, Nat.reduceEqDiff, reduceIte, Nat.reduceAdd, Nat.reduceMul, Nat.reduceLeDiff, Nat.reduceSub, Nat.reduceLT, Nat.zero_lt_succ, Int.reduceToNat, Int.reduceAdd, Int.reduceSub, Int.reduceMul, Int.reduceNeg, Int.reduceLT, Int.reduceLE, Int.reduceEq, Int.reduceBEq, Int.reduceBNe, Nat.reduceBEq, List.reduceReplicate, con15_f, con16_f, con17_f, con19_f, con27_f, con29_f, con30_f, con15_c, con16_c, con17_c, arrsOf_sl, slK_sl, hf, n1, hF, frV_def, arrs_length, Bool.not_true]; first | (with_reducible refine A.h ?_) | (with_reducible refine B.h ?_) | refine And.intro (fun hc => A.h ?_) (fun hc => B.h ?_))
        | simp only [thenQ_n, thenQ_r, thenQ_e, blockQ_n, blockQ_r, blockQ_e, scopeQ_n, scopeQ_r, scopeQ_e, Nat.reduceEqDiff, reduceIte]
        | (with_reducible refine And.intro ?_ ?_)
        | with_reducible intro vr)
      all_goals try (intros; (try simp only [Bool.and_eq_true, Bool.or_eq_true, Bool.not_eq_true', decide_eq_true_eq, decide_eq_false_iff_not, beq_iff_eq, bne_iff_ne, ne_eq, inI64, List.length_append] at *) <;> omega)
      all_goals try exact fewL_ok hf _ (by assumption)
      all_goals try exact hr _ (by assumption)
      refine t_loop (ι := { j : Nat // j ≤ l.length } × Nat × Nat) (fun i => ⟨upd (upd (upd (upd (upd (upd (upd (upd topF 10 (.lit (.int .i64 ((l.length : Int) - 1 - i.1.1)))) 9 (.arr 1 i.2.2)) 8 (.arr 0 i.2.1)) 7 (.lit (.int .i64 er))) 6 (.sl false 1 (bools fd))) 5 (.sl false 1 (ints .i64 F))) 1 (.sl false 1 (ints .i64 rs))) 0 (.sl false 3 (arrs l)),
        [.arr 33 3 (arrs (l.reverse.take i.1.1)) i.2.1 false, .arr 3 1 (ints .i64 (rs.reverse.take i.1.1)) i.2.2 false]⟩) (fun i => l.length - i.1.1) (⟨0, by omega⟩, 0, 0) ?_ ?_
      · refine (le_nil 8 33 3 rfl).trans ((le_nil 9 3 1 rfl).trans ?_)
        (refine Le.frame ?_; repeat' (first | exact leF_top _ | (with_reducible refine leF_sl ?_ ?_) | (refine leF_upd (LeR.of_eq ?_) ?_))) <;> (try (simp only [go_sem, Int.cast_ofNat_Int, Nat.reduceEqDiff, reduceIte, Nat.reduceAdd, Nat.reduceMul, Nat.reduceLeDiff, Nat.reduceSub, Nat.reduceLT, Nat.zero_lt_succ, Int.reduceToNat, Int.reduceAdd, Int.reduceSub, Int.reduceMul, Int.reduceNeg, Int.reduceLT, Int.reduceLE, Int.reduceEq, Int.reduceBEq, Int.reduceBNe, Nat.reduceBEq, List.reduceReplicate]; try rfl))
        omega
      · rintro ⟨⟨j, hj⟩, v1, v2⟩ K0
        rcases Nat.lt_or_ge j l.length with hc | hc
        · have g1 : decide ((l.length : Int) - 1 - (j : Int) ≥ 0) = true := decide_eq_true (by omega)
          have hi1 : ((l.length : Int) - 1 - (j : Int)).toNat = l.length - 1 - j := by omega
          have g2 := arrs_getD l (l.length - 1 - j) (by omega)
          have g3 := ints_getD .i64 rs (l.length - 1 - j) (by omega)
          have hA := rev_getD nilA hc
          have hB := rev_getD 0 (show j < rs.length by omega)
          rw [hn] at hB
          generalize l.getD (l.length - 1 - j) nilA = a at g2 hA
          generalize rs.getD (l.length - 1 - j) 0 = r at g3 hB
          have hA' : arrs (l.reverse.take j) ++ [.agg [.lit (.string a.e), .sl false 1 (ints .i64 a.d), .sl false 1 (ints .i64 a.x)]] = arrs (l.reverse.take (j + 1)) := by rw [← hA, arrs_app]
          have hl1 : (l.reverse.take j).length ≤ 4 := by simp only [List.length_take, List.length_reverse]; omega
          have hl2 : (rs.reverse.take j).length ≤ 4 := by simp only [List.length_take, List.length_reverse]; omega
          repeat' (first
            | with_reducible refine t_seq fun K => ?_
            | with_reducible refine t_block ?_
            | with_reducible refine t_scope ?_
            | with_reducible refine t_label ?_
            | with_reducible refine t_skip ?_
            | with_reducible refine t_exit ?_
            | with_reducible refine t_ret ?_
            | with_reducible refine t_k ?_
            | (with_reducible refine t_gF ?_)
            | ((first | with_reducible refine t_kE ?_ | with_reducible refine t_kD ?_ | with_reducible refine t_gS ?_ | with_reducible refine t_kL ?_ | (with_reducible refine t_kLE ?_ ?_; rotate_left) | with_reducible refine t_region fun K => ?_ | with_reducible refine t_drawE (id := 11) (fun _ => true) [(0, true), (1, true), (2, true), (3, true), (4, true), (5, true), (7, true), (8, true), (9, true), (10, true), (11, true), (12, true), (6, false), (13, false), (14, true), (15, true)] (by kernel_rfl) fun K => ?_ | with_reducible refine t_draw (by kernel_rfl) fun K => ?_); simp only [go_sem, Int.cast_ofNat_Int, Nat.reduceEqDiff, reduceIte, Nat.reduceAdd, Nat.reduceMul, Nat.reduceLeDiff, Nat.reduceSub, Nat.reduceLT, Nat.zero_lt_succ, Int.reduceToNat, Int.reduceAdd, Int.reduceSub, Int.reduceMul, Int.reduceNeg, Int.reduceLT, Int.reduceLE, Int.reduceEq, Int.reduceBEq, Int.reduceBNe, Nat.reduceBEq, List.reduceReplicate, g1, hi1, g2, g3, arrV_def, hA', hB, arrs_length])
            | (with_reducible exact kp_nil)
            | (with_reducible exact Kp.refl _)
            | (with_reducible exact kp_to)
            | (with_reducible refine kp_cons ?_)
            | (with_reducible refine kp_arr ?_)
            | (with_reducible refine kp_app ?_)
            | ((with_reducible refine kp_skip ?_ ?_); rfl)
            | ((with_reducible refine t_cond fun A B => ?_); simp only [go_sem, Int.cast_ofNat_Int, Nat.reduceEqDiff, reduceIte, Nat.reduceAdd, Nat.reduceMul, Nat.reduceLeDiff, Nat.reduceSub, Nat.reduceLT, Nat.zero_lt_succ, Int.reduceToNat, Int.reduceAdd, Int.reduceSub, Int.reduceMul, Int.reduceNeg, Int.reduceLT, Int.reduceLE, Int.reduceEq, Int.reduceBEq, Int.reduceBNe, Nat.reduceBEq, List.reduceReplicate, g1, hi1, g2, g3, arrV_def, hA', hB, arrs_length]; first | (with_reducible refine A.h ?_) | (with_reducible refine B.h ?_) | refine And.intro (fun hc => A.h ?_) (fun hc => B.h ?_))
            | simp only [thenQ_n, thenQ_r, thenQ_e, blockQ_n, blockQ_r, blockQ_e, scopeQ_n, scopeQ_r, scopeQ_e, Nat.reduceEqDiff, reduceIte]
            | (with_reducible refine And.intro ?_ ?_)
            | with_reducible intro vr)
          all_goals try (intros; (try simp only [Bool.and_eq_true, Bool.or_eq_true, Bool.not_eq_true', decide_eq_true_eq, decide_eq_false_iff_not, beq_iff_eq, bne_iff_ne, ne_eq, inI64, List.length_append] at *) <;> omega)
          refine ⟨(⟨j + 1, by omega⟩, v1 + 1, v2 + 1), by simp only; omega, ?_⟩
          (refine Le.frame ?_; repeat' (first | exact leF_top _ | (with_reducible refine leF_sl ?_ ?_) | (refine leF_upd (LeR.of_eq ?_) ?_))) <;> (try (simp only [go_sem, Int.cast_ofNat_Int, Nat.reduceEqDiff, reduceIte, Nat.reduceAdd, Nat.reduceMul, Nat.reduceLeDiff, Nat.reduceSub, Nat.reduceLT, Nat.zero_lt_succ, Int.reduceToNat, Int.reduceAdd, Int.reduceSub, Int.reduceMul, Int.reduceNeg, Int.reduceLT, Int.reduceLE, Int.reduceEq, Int.reduceBEq, Int.reduceBNe, Nat.reduceBEq, List.reduceReplicate]; try rfl))
          omega
        · have g1 : decide ((l.length : Int) - 1 - (j : Int) ≥ 0) = false := decide_eq_false (by omega)
          have : j = l.length := by omega
          subst this
          have ht1 : l.reverse.take l.length = l.reverse := List.take_of_length_le (by simp)
          have ht2 : rs.reverse.take l.length = rs.reverse := List.take_of_length_le (by simp; omega)
          have hl1 : l.reverse.length ≤ 4 := by simp; omega
          have hl2 : rs.reverse.length ≤ 4 := by simp; omega
          have hap : arrs l.reverse ++ [.agg [.lit (.string sInt), .sl false 1 (ints .i64 []), .sl false 1 (ints .i64 (zz 1))]] = arrs (l.reverse ++ [z0]) := arrs_app
          by_cases e0 : er = 0
          · subst e0
            obtain ⟨fd2', hz3⟩ := frame_rev hz1.symm
            rw [hz3, Prod.mk.injEq, Prod.mk.injEq] at hz2
            obtain ⟨rfl, rfl, rfl⟩ := hz2
            obtain ⟨hcomp, _, _, hfd⟩ := frameH_ok hz1.symm
            rw [List.nil_append] at hfd
            have hfl := fdOf_zip (l := l) (rs := rs) hn.symm
            rw [← hfd] at hfl
            have hK := chk_ok hcomp
            rw [← hfd] at hK
            have d1 := dself F2
            have m1 : ((fd.length : Int) != (l.length : Int)) = false := by rw [bne_eq_false_iff_eq]; omega
            generalize hS : sizeS F2 = s
            obtain ⟨sn, se⟩ := s
            by_cases s0 : se = 0
            · subst s0
              repeat' (first
                | with_reducible refine t_seq fun K => ?_
                | with_reducible refine t_block ?_
                | with_reducible refine t_scope ?_
                | with_reducible refine t_label ?_
                | with_reducible refine t_skip ?_
                | with_reducible refine t_exit ?_
                | with_reducible refine t_ret ?_
                | with_reducible refine t_k ?_
                | (with_reducible refine t_gF ?_)
                | ((first | with_reducible refine t_kE ?_ | with_reducible refine t_kD ?_ | with_reducible refine t_gS ?_ | with_reducible refine t_kL ?_ | (with_reducible refine t_kLE ?_ ?_; rotate_left) | with_reducible refine t_region fun K => ?_ | with_reducible refine t_drawE (id := 11) (fun _ => true) [(0, true), (1, true), (2, true), (3, true), (4, true), (5, true), (7, true), (8, true), (9, true), (10, true), (11, true), (12, true), (6, false), (13, false), (14, true), (15, true)] (by kernel_rfl) fun K => ?_ | with_reducible refine t_draw (by kernel_rfl) fun K => ?_); simp only [go_sem, Int.cast_ofNat_Int, Nat.reduceEqDiff, reduceIte, Nat.reduceAdd, Nat.reduceMul, Nat.reduceLeDiff, Nat.reduceSub, Nat.reduceLT, Nat.zero_lt_succ, Int.reduceToNat, Int.reduceAdd, Int.reduceSub, Int.reduceMul, Int.reduceNeg, Int.reduceLT, Int.reduceLE, Int.reduceEq, Int.reduceBEq, Int.reduceBNe, Nat.reduceBEq, List.reduceReplicate, con15_f, con16_f, con17_f, con19_f, con27_f, con29_f, con30_f, con17_c, con19_c, con29_c, con30_c, g1, ht1, ht2, hap, hz, arrV_def, arrs_length, arrsOf_sl, slK_sl, slK_nil, hF2, frV_def, d1, m1, hS, szV_def, bools_length, Bool.not_true])
                | (with_reducible exact kp_nil)
                | (with_reducible exact Kp.refl _)
                | (with_reducible exact kp_to)
                | (with_reducible refine kp_cons ?_)
                | (with_reducible refine kp_arr ?_)
                | (with_reducible refine kp_app ?_)
                | ((with_reducible refine kp_skip ?_ ?_); rfl)
                | ((with_reducible refine t_cond fun A B => ?_); simp only [go_sem, Int.cast_ofNat_Int, Nat.reduceEqDiff, reduceIte, Nat.reduceAdd, Nat.reduceMul, Nat.reduceLeDiff, Nat.reduceSub, Nat.reduceLT, Nat.zero_lt_succ, Int.reduceToNat, Int.reduceAdd, Int.reduceSub, Int.reduceMul, Int.reduceNeg, Int.reduceLT, Int.reduceLE, Int.reduceEq, Int.reduceBEq, Int.reduceBNe, Nat.reduceBEq, List.reduceReplicate, con15_f, con16_f, con17_f, con19_f, con27_f, con29_f, con30_f, con17_c, con19_c, con29_c, con30_c, g1, ht1, ht2, hap, hz, arrV_def, arrs_length, arrsOf_sl, slK_sl, slK_nil, hF2, frV_def, d1, m1, hS, szV_def, bools_length, Bool.not_true]; first | (with_reducible refine A.h ?_) | (with_reducible refine B.h ?_) | refine And.intro (fun hc => A.h ?_) (fun hc => B.h ?_))
                | simp only [thenQ_n, thenQ_r, thenQ_e, blockQ_n, blockQ_r, blockQ_e, scopeQ_n, scopeQ_r, scopeQ_e, Nat.reduceEqDiff, reduceIte]
                | (with_reducible refine And.intro ?_ ?_)
                | with_reducible intro vr)
              all_goals try (intros; (try simp only [Bool.and_eq_true, Bool.or_eq_true, Bool.not_eq_true', decide_eq_true_eq, decide_eq_false_iff_not, beq_iff_eq, bne_iff_ne, ne_eq, inI64, List.length_append] at *) <;> omega)
              all_goals try first | exact hor _ (by assumption) | exact hrr _ (by assumption)
              generalize AObj.arr 33 3 (arrs (l.reverse ++ [z0])) (v1 + 1) true = o0
              generalize AObj.arr 3 1 (ints .i64 (rs.reverse ++ [0])) (v2 + 1) true = o1
              have hal : (axesOf F2 fd).length = l.length := by unfold axesOf; rw [List.length_map, hfl]
              have hC : chkS F2 (axesOf F2 fd) rs l = 0 := by
                unfold chkS
                rw [hS, if_neg (by simp; omega), if_neg (by simp), hK]
              have hax : ∀ x ∈ axesOf F2 fd, x.length ≤ 1000000 := fun x hx => by have := axesOf_len x hx; omega
              refine t_loop (ι := { i : Nat // i ≤ l.length } × Nat × List AObj) (fun i => ⟨upd (upd (upd (upd (upd (upd (upd topF 100 (.lit (.int .i64 i.1.1))) 99 (.lit (.int .i64 l.length))) 16 (.arr 2 i.2.1)) 6 (.sl false 1 (bools fd))) 5 (.sl false 1 (ints .i64 F2))) 1 (.sl false 1 (ints .i64 rs))) 0 (.sl false 3 (arrs l)), o0 :: o1 :: .arr 23 1 (ils ((axesOf F2 fd).take i.1.1)) i.2.1 false :: i.2.2⟩) (fun i => l.length - i.1.1) (⟨0, by omega⟩, 0, []) ?_ ?_
              · refine (le_nil 16 23 1 rfl).trans ?_
                (refine Le.frame ?_; repeat' (first | exact leF_top _ | (with_reducible refine leF_sl ?_ ?_) | (refine leF_upd (LeR.of_eq ?_) ?_))) <;> (try (simp only [go_sem, Int.cast_ofNat_Int, Nat.reduceEqDiff, reduceIte, Nat.reduceAdd, Nat.reduceMul, Nat.reduceLeDiff, Nat.reduceSub, Nat.reduceLT, Nat.zero_lt_succ, Int.reduceToNat, Int.reduceAdd, Int.reduceSub, Int.reduceMul, Int.reduceNeg, Int.reduceLT, Int.reduceLE, Int.reduceEq, Int.reduceBEq, Int.reduceBNe, Nat.reduceBEq, List.reduceReplicate]; try rfl))
              · rintro ⟨⟨i, hi⟩, v, g⟩ K2
                have k1 : ∀ (X : AObj), (g ++ [X])[g.length]? = some X := fun X => getA0 rfl
                have k2 : ∀ (X Y : AObj), (g ++ [X]).set g.length Y = g ++ [Y] := fun X Y => setA0 rfl
                rcases Nat.lt_or_ge i l.length with hc2 | hc2
                · have g1 : decide ((i : Int) < (l.length : Int)) = true := decide_eq_true (by omega)
                  have g2 := bools_getD fd i (by omega)
                  have hL := take_app (l := axesOf F2 fd) (i := i) (show i < (axesOf F2 fd).length by omega)
                  have hLi : (axesOf F2 fd)[i]'(by omega) = if fd.getD i false = true then rng F2.length else [] := by
                    unfold axesOf; simp [List.getD, show i < fd.length by omega]
                  rw [hLi] at hL
                  have hll : ((axesOf F2 fd).take i).length ≤ 4 := by simp only [List.length_take]; omega
                  generalize fd.getD i false = b at g2 hL
                  repeat' (first
                    | with_reducible refine t_seq fun K => ?_
                    | with_reducible refine t_block ?_
                    | with_reducible refine t_scope ?_
                    | with_reducible refine t_label ?_
                    | with_reducible refine t_skip ?_
                    | with_reducible refine t_exit ?_
                    | with_reducible refine t_ret ?_
                    | with_reducible refine t_k ?_
                    | (with_reducible refine t_gF ?_)
                    | ((first | with_reducible refine t_kE ?_ | with_reducible refine t_kD ?_ | with_reducible refine t_gS ?_ | with_reducible refine t_kL ?_ | (with_reducible refine t_kLE ?_ ?_; rotate_left) | with_reducible refine t_region fun K => ?_ | with_reducible refine t_drawE (id := 11) (fun _ => true) [(0, true), (1, true), (2, true), (3, true), (4, true), (5, true), (7, true), (8, true), (9, true), (10, true), (11, true), (12, true), (6, false), (13, false), (14, true), (15, true)] (by kernel_rfl) fun K => ?_ | with_reducible refine t_draw (by kernel_rfl) fun K => ?_); simp only [go_sem, Int.cast_ofNat_Int, Nat.reduceEqDiff, reduceIte, Nat.reduceAdd, Nat.reduceMul, Nat.reduceLeDiff, Nat.reduceSub, Nat.reduceLT, Nat.zero_lt_succ, Int.reduceToNat, Int.reduceAdd, Int.reduceSub, Int.reduceMul, Int.reduceNeg, Int.reduceLT, Int.reduceLE, Int.reduceEq, Int.reduceBEq, Int.reduceBNe, Nat.reduceBEq, List.reduceReplicate, con15_f, con16_f, con17_f, con19_f, con27_f, con29_f, con30_f, g1])
                    | (with_reducible exact kp_nil)
                    | (with_reducible exact Kp.refl _)
                    | (with_reducible exact kp_to)
                    | (with_reducible refine kp_cons ?_)
                    | (with_reducible refine kp_arr ?_)
                    | (with_reducible refine kp_app ?_)
                    | ((with_reducible refine kp_skip ?_ ?_); rfl)
                    | ((with_reducible refine t_cond fun A B => ?_); simp only [go_sem, Int.cast_ofNat_Int, Nat.reduceEqDiff, reduceIte, Nat.reduceAdd, Nat.reduceMul, Nat.reduceLeDiff, Nat.reduceSub, Nat.reduceLT, Nat.zero_lt_succ, Int.reduceToNat, Int.reduceAdd, Int.reduceSub, Int.reduceMul, Int.reduceNeg, Int.reduceLT, Int.reduceLE, Int.reduceEq, Int.reduceBEq, Int.reduceBNe, Nat.reduceBEq, List.reduceReplicate, con15_f, con16_f, con17_f, con19_f, con27_f, con29_f, con30_f, g1]; first | (with_reducible refine A.h ?_) | (with_reducible refine B.h ?_) | refine And.intro (fun hc => A.h ?_) (fun hc => B.h ?_))
                    | simp only [thenQ_n, thenQ_r, thenQ_e, blockQ_n, blockQ_r, blockQ_e, scopeQ_n, scopeQ_r, scopeQ_e, Nat.reduceEqDiff, reduceIte]
                    | (with_reducible refine And.intro ?_ ?_)
                    | with_reducible intro vr)
                  all_goals try (intros; (try simp only [Bool.and_eq_true, Bool.or_eq_true, Bool.not_eq_true', decide_eq_true_eq, decide_eq_false_iff_not, beq_iff_eq, bne_iff_ne, ne_eq, inI64, List.length_append] at *) <;> omega)
                  cases b
                  · simp only [Bool.false_eq_true, if_false] at hL
                    refine t_loop (ι := ({ j : Nat // j < F2.length } × Nat) ⊕ Nat) (fun p => match p with
                        | .inl p => ⟨upd (upd (upd (upd (upd (upd (upd (upd (upd (upd (upd topF 105 (.lit (.int .i64 p.1.1))) 104 (.lit (.int .i64 F2.length))) 18 (.arr (g.length + 1 + 1 + 1) p.2)) 17 (.lit (.int .i64 i))) 100 (.lit (.int .i64 i))) 99 (.lit (.int .i64 l.length))) 16 (.arr 2 v)) 6 (.sl false 1 (bools fd))) 5 (.sl false 1 (ints .i64 F2))) 1 (.sl false 1 (ints .i64 rs))) 0 (.sl false 3 (arrs l)), o0 :: o1 :: .arr 23 1 (ils ((axesOf F2 fd).take i)) v false :: (g ++ [.arr 3 1 (ints .i64 ([] : List Int)) p.2 false])⟩
                        | .inr w => ⟨upd (upd (upd (upd (upd (upd (upd (upd (upd (upd (upd topF 105 (.lit (.int .i64 F2.length))) 104 (.lit (.int .i64 F2.length))) 18 (.sl false 1 (ints .i64 ([] : List Int)))) 17 (.lit (.int .i64 i))) 100 (.lit (.int .i64 i))) 99 (.lit (.int .i64 l.length))) 16 (.arr 2 v)) 6 (.sl false 1 (bools fd))) 5 (.sl false 1 (ints .i64 F2))) 1 (.sl false 1 (ints .i64 rs))) 0 (.sl false 3 (arrs l)), o0 :: o1 :: .arr 23 1 (ils ((axesOf F2 fd).take i)) v false :: (g ++ [.arr 3 1 (ints .i64 ([] : List Int)) w true])⟩) (fun p => match p with | .inl p => F2.length - p.1.1 | .inr _ => 0) (if h : 0 < F2.length then .inl (⟨0, h⟩, 0) else .inr 0) ?_ ?_
                    · by_cases h : 0 < F2.length
                      · rw [dif_pos h]
                        refine (le_nil 18 3 1 rfl).trans ?_
                        (refine Le.frame ?_; repeat' (first | exact leF_top _ | (with_reducible refine leF_sl ?_ ?_) | (refine leF_upd (LeR.of_eq ?_) ?_))) <;> (try (simp only [go_sem, Int.cast_ofNat_Int, Nat.reduceEqDiff, reduceIte, Nat.reduceAdd, Nat.reduceMul, Nat.reduceLeDiff, Nat.reduceSub, Nat.reduceLT, Nat.zero_lt_succ, Int.reduceToNat, Int.reduceAdd, Int.reduceSub, Int.reduceMul, Int.reduceNeg, Int.reduceLT, Int.reduceLE, Int.reduceEq, Int.reduceBEq, Int.reduceBNe, Nat.reduceBEq, List.reduceReplicate]; try rfl))
                      · rw [dif_neg h]
                        have hz0 : F2.length = 0 := by omega
                        have hF0 : F2 = [] := List.eq_nil_of_length_eq_zero hz0
                        refine (le_nil 18 3 1 rfl).trans ((le_freeze 18 (o := g.length + 1 + 1 + 1) (e := 3) (sz := 1) (ver := 0) (xs := []) rfl ?_).trans ?_)
                        · simp
                        · simp only [hz0]
                          rw [show (o0 :: o1 :: AObj.arr 23 1 (ils ((axesOf F2 fd).take i)) v false :: g ++ [AObj.arr 3 1 [] 0 false]).set (g.length + 1 + 1 + 1) (AObj.arr 3 1 [] 0 true) = o0 :: o1 :: AObj.arr 23 1 (ils ((axesOf F2 fd).take i)) v false :: (g ++ [AObj.arr 3 1 [] 0 true]) by simp]
                          (refine Le.frame ?_; repeat' (first | exact leF_top _ | (with_reducible refine leF_sl ?_ ?_) | (refine leF_upd (LeR.of_eq ?_) ?_))) <;> (try (simp only [go_sem, Int.cast_ofNat_Int, Nat.reduceEqDiff, reduceIte, Nat.reduceAdd, Nat.reduceMul, Nat.reduceLeDiff, Nat.reduceSub, Nat.reduceLT, Nat.zero_lt_succ, Int.reduceToNat, Int.reduceAdd, Int.reduceSub, Int.reduceMul, Int.reduceNeg, Int.reduceLT, Int.reduceLE, Int.reduceEq, Int.reduceBEq, Int.reduceBNe, Nat.reduceBEq, List.reduceReplicate]; try rfl))
                    · rintro (⟨⟨j, hj⟩, w⟩ | w) K1
                      · have g5 : decide ((j : Int) < (F2.length : Int)) = true := decide_eq_true (by omega)
                        have hrl := rng_len j
                        have hrs := rng_succ j
                        repeat' (first
                          | with_reducible refine t_seq fun K => ?_
                          | with_reducible refine t_block ?_
                          | with_reducible refine t_scope ?_
                          | with_reducible refine t_label ?_
                          | with_reducible refine t_skip ?_
                          | with_reducible refine t_exit ?_
                          | with_reducible refine t_ret ?_
                          | with_reducible refine t_k ?_
                          | (with_reducible refine t_gF ?_)
                          | ((first | with_reducible refine t_kE ?_ | with_reducible refine t_kD ?_ | with_reducible refine t_gS ?_ | with_reducible refine t_kL ?_ | (with_reducible refine t_kLE ?_ ?_; rotate_left) | with_reducible refine t_region fun K => ?_ | with_reducible refine t_drawE (id := 11) (fun _ => true) [(0, true), (1, true), (2, true), (3, true), (4, true), (5, true), (7, true), (8, true), (9, true), (10, true), (11, true), (12, true), (6, false), (13, false), (14, true), (15, true)] (by kernel_rfl) fun K => ?_ | with_reducible refine t_draw (by kernel_rfl) fun K => ?_); simp only [go_sem, Int.cast_ofNat_Int, Nat.reduceEqDiff, reduceIte, Nat.reduceAdd, Nat.reduceMul, Nat.reduceLeDiff, Nat.reduceSub, Nat.reduceLT, Nat.zero_lt_succ, Int.reduceToNat, Int.reduceAdd, Int.reduceSub, Int.reduceMul, Int.reduceNeg, Int.reduceLT, Int.reduceLE, Int.reduceEq, Int.reduceBEq, Int.reduceBNe, Nat.reduceBEq, List.reduceReplicate, con15_f, con16_f, con17_f, con19_f, con27_f, con29_f, con30_f, g5, g2, k1, k2, hrs, ints_length, bools_length, Int.toNat_natCast])
                          | (with_reducible exact kp_nil)
                          | (with_reducible exact Kp.refl _)
                          | (with_reducible exact kp_to)
                          | (with_reducible refine kp_cons ?_)
                          | (with_reducible refine kp_arr ?_)
                          | (with_reducible refine kp_app ?_)
                          | ((with_reducible refine kp_skip ?_ ?_); rfl)
                          | ((with_reducible refine t_cond fun A B => ?_); simp only [go_sem, Int.cast_ofNat_Int, Nat.reduceEqDiff, reduceIte, Nat.reduceAdd, Nat.reduceMul, Nat.reduceLeDiff, Nat.reduceSub, Nat.reduceLT, Nat.zero_lt_succ, Int.reduceToNat, Int.reduceAdd, Int.reduceSub, Int.reduceMul, Int.reduceNeg, Int.reduceLT, Int.reduceLE, Int.reduceEq, Int.reduceBEq, Int.reduceBNe, Nat.reduceBEq, List.reduceReplicate, con15_f, con16_f, con17_f, con19_f, con27_f, con29_f, con30_f, g5, g2, k1, k2, hrs, ints_length, bools_length, Int.toNat_natCast]; first | (with_reducible refine A.h ?_) | (with_reducible refine B.h ?_) | refine And.intro (fun hc => A.h ?_) (fun hc => B.h ?_))
                          | simp only [thenQ_n, thenQ_r, thenQ_e, blockQ_n, blockQ_r, blockQ_e, scopeQ_n, scopeQ_r, scopeQ_e, Nat.reduceEqDiff, reduceIte]
                          | (with_reducible refine And.intro ?_ ?_)
                          | with_reducible intro vr)
                        all_goals try (intros; (try simp only [Bool.and_eq_true, Bool.or_eq_true, Bool.not_eq_true', decide_eq_true_eq, decide_eq_false_iff_not, beq_iff_eq, bne_iff_ne, ne_eq, inI64, List.length_append] at *) <;> omega)
                        by_cases hnx : j + 1 < F2.length
                        · refine ⟨.inl (⟨j + 1, hnx⟩, w), by simp only; omega, ?_⟩
                          (refine Le.frame ?_; repeat' (first | exact leF_top _ | (with_reducible refine leF_sl ?_ ?_) | (refine leF_upd (LeR.of_eq ?_) ?_))) <;> (try (simp only [go_sem, Int.cast_ofNat_Int, Nat.reduceEqDiff, reduceIte, Nat.reduceAdd, Nat.reduceMul, Nat.reduceLeDiff, Nat.reduceSub, Nat.reduceLT, Nat.zero_lt_succ, Int.reduceToNat, Int.reduceAdd, Int.reduceSub, Int.reduceMul, Int.reduceNeg, Int.reduceLT, Int.reduceLE, Int.reduceEq, Int.reduceBEq, Int.reduceBNe, Nat.reduceBEq, List.reduceReplicate]; try rfl))
                        · refine ⟨.inr (w), by simp only; omega, ?_⟩
                          have hjl : j + 1 = F2.length := by omega
                          refine (le_freeze 18 (o := g.length + 1 + 1 + 1) (e := 3) (sz := 1) (ver := w) (xs := ints .i64 (([] : List Int))) rfl ?_).trans ?_
                          · simp
                          · simp only [← hjl]
                            rw [show (o0 :: o1 :: AObj.arr 23 1 (ils ((axesOf F2 fd).take i)) v false :: (g ++ [AObj.arr 3 1 (ints .i64 ([] : List Int)) (w) false])).set (g.length + 1 + 1 + 1) (AObj.arr 3 1 (ints .i64 ([] : List Int)) (w) true) = o0 :: o1 :: AObj.arr 23 1 (ils ((axesOf F2 fd).take i)) v false :: (g ++ [AObj.arr 3 1 (ints .i64 ([] : List Int)) (w) true]) by simp]
                            (refine Le.frame ?_; repeat' (first | exact leF_top _ | (with_reducible refine leF_sl ?_ ?_) | (refine leF_upd (LeR.of_eq ?_) ?_))) <;> (try (simp only [go_sem, Int.cast_ofNat_Int, Nat.reduceEqDiff, reduceIte, Nat.reduceAdd, Nat.reduceMul, Nat.reduceLeDiff, Nat.reduceSub, Nat.reduceLT, Nat.zero_lt_succ, Int.reduceToNat, Int.reduceAdd, Int.reduceSub, Int.reduceMul, Int.reduceNeg, Int.reduceLT, Int.reduceLE, Int.reduceEq, Int.reduceBEq, Int.reduceBNe, Nat.reduceBEq, List.reduceReplicate]; try rfl))
                      · have g5 : decide ((F2.length : Int) < (F2.length : Int)) = false := decide_eq_false (by omega)
                        repeat' (first
                          | with_reducible refine t_seq fun K => ?_
                          | with_reducible refine t_block ?_
                          | with_reducible refine t_scope ?_
                          | with_reducible refine t_label ?_
                          | with_reducible refine t_skip ?_
                          | with_reducible refine t_exit ?_
                          | with_reducible refine t_ret ?_
                          | with_reducible refine t_k ?_
                          | (with_reducible refine t_gF ?_)
                          | ((first | with_reducible refine t_kE ?_ | with_reducible refine t_kD ?_ | with_reducible refine t_gS ?_ | with_reducible refine t_kL ?_ | (with_reducible refine t_kLE ?_ ?_; rotate_left) | with_reducible refine t_region fun K => ?_ | with_reducible refine t_drawE (id := 11) (fun _ => true) [(0, true), (1, true), (2, true), (3, true), (4, true), (5, true), (7, true), (8, true), (9, true), (10, true), (11, true), (12, true), (6, false), (13, false), (14, true), (15, true)] (by kernel_rfl) fun K => ?_ | with_reducible refine t_draw (by kernel_rfl) fun K => ?_); simp only [go_sem, Int.cast_ofNat_Int, Nat.reduceEqDiff, reduceIte, Nat.reduceAdd, Nat.reduceMul, Nat.reduceLeDiff, Nat.reduceSub, Nat.reduceLT, Nat.zero_lt_succ, Int.reduceToNat, Int.reduceAdd, Int.reduceSub, Int.reduceMul, Int.reduceNeg, Int.reduceLT, Int.reduceLE, Int.reduceEq, Int.reduceBEq, Int.reduceBNe, Nat.reduceBEq, List.reduceReplicate, con15_f, con16_f, con17_f, con19_f, con27_f, con29_f, con30_f, g5, hL, ils_app, ils_length])
                          | (with_reducible exact kp_nil)
                          | (with_reducible exact Kp.refl _)
                          | (with_reducible exact kp_to)
                          | (with_reducible refine kp_cons ?_)
                          | (with_reducible refine kp_arr ?_)
                          | (with_reducible refine kp_app ?_)
                          | ((with_reducible refine kp_skip ?_ ?_); rfl)
                          | ((with_reducible refine t_cond fun A B => ?_); simp only [go_sem, Int.cast_ofNat_Int, Nat.reduceEqDiff, reduceIte, Nat.reduceAdd, Nat.reduceMul, Nat.reduceLeDiff, Nat.reduceSub, Nat.reduceLT, Nat.zero_lt_succ, Int.reduceToNat, Int.reduceAdd, Int.reduceSub, Int.reduceMul, Int.reduceNeg, Int.reduceLT, Int.reduceLE, Int.reduceEq, Int.reduceBEq, Int.reduceBNe, Nat.reduceBEq, List.reduceReplicate, con15_f, con16_f, con17_f, con19_f, con27_f, con29_f, con30_f, g5, hL, ils_app, ils_length]; first | (with_reducible refine A.h ?_) | (with_reducible refine B.h ?_) | refine And.intro (fun hc => A.h ?_) (fun hc => B.h ?_))
                          | simp only [thenQ_n, thenQ_r, thenQ_e, blockQ_n, blockQ_r, blockQ_e, scopeQ_n, scopeQ_r, scopeQ_e, Nat.reduceEqDiff, reduceIte]
                          | (with_reducible refine And.intro ?_ ?_)
                          | with_reducible intro vr)
                        all_goals try (intros; (try simp only [Bool.and_eq_true, Bool.or_eq_true, Bool.not_eq_true', decide_eq_true_eq, decide_eq_false_iff_not, beq_iff_eq, bne_iff_ne, ne_eq, inI64, List.length_append] at *) <;> omega)
                        refine ⟨(⟨i + 1, by omega⟩, v + 1, g ++ [.arr 3 1 (ints .i64 ([] : List Int)) w true]), by simp only; omega, ?_⟩
                        (refine Le.frame ?_; repeat' (first | exact leF_top _ | (with_reducible refine leF_sl ?_ ?_) | (refine leF_upd (LeR.of_eq ?_) ?_))) <;> (try (simp only [go_sem, Int.cast_ofNat_Int, Nat.reduceEqDiff, reduceIte, Nat.reduceAdd, Nat.reduceMul, Nat.reduceLeDiff, Nat.reduceSub, Nat.reduceLT, Nat.zero_lt_succ, Int.reduceToNat, Int.reduceAdd, Int.reduceSub, Int.reduceMul, Int.reduceNeg, Int.reduceLT, Int.reduceLE, Int.reduceEq, Int.reduceBEq, Int.reduceBNe, Nat.reduceBEq, List.reduceReplicate]; try rfl))
                  · simp only [if_true] at hL
                    refine t_loop (ι := ({ j : Nat // j < F2.length } × Nat) ⊕ Nat) (fun p => match p with
                        | .inl p => ⟨upd (upd (upd (upd (upd (upd (upd (upd (upd (upd (upd topF 105 (.lit (.int .i64 p.1.1))) 104 (.lit (.int .i64 F2.length))) 18 (.arr (g.length + 1 + 1 + 1) p.2)) 17 (.lit (.int .i64 i))) 100 (.lit (.int .i64 i))) 99 (.lit (.int .i64 l.length))) 16 (.arr 2 v)) 6 (.sl false 1 (bools fd))) 5 (.sl false 1 (ints .i64 F2))) 1 (.sl false 1 (ints .i64 rs))) 0 (.sl false 3 (arrs l)), o0 :: o1 :: .arr 23 1 (ils ((axesOf F2 fd).take i)) v false :: (g ++ [.arr 3 1 (ints .i64 (rng p.1.1)) p.2 false])⟩
                        | .inr w => ⟨upd (upd (upd (upd (upd (upd (upd (upd (upd (upd (upd topF 105 (.lit (.int .i64 F2.length))) 104 (.lit (.int .i64 F2.length))) 18 (.sl false 1 (ints .i64 (rng F2.length)))) 17 (.lit (.int .i64 i))) 100 (.lit (.int .i64 i))) 99 (.lit (.int .i64 l.length))) 16 (.arr 2 v)) 6 (.sl false 1 (bools fd))) 5 (.sl false 1 (ints .i64 F2))) 1 (.sl false 1 (ints .i64 rs))) 0 (.sl false 3 (arrs l)), o0 :: o1 :: .arr 23 1 (ils ((axesOf F2 fd).take i)) v false :: (g ++ [.arr 3 1 (ints .i64 (rng F2.length)) w true])⟩) (fun p => match p with | .inl p => F2.length - p.1.1 | .inr _ => 0) (if h : 0 < F2.length then .inl (⟨0, h⟩, 0) else .inr 0) ?_ ?_
                    · by_cases h : 0 < F2.length
                      · rw [dif_pos h]
                        refine (le_nil 18 3 1 rfl).trans ?_
                        (refine Le.frame ?_; repeat' (first | exact leF_top _ | (with_reducible refine leF_sl ?_ ?_) | (refine leF_upd (LeR.of_eq ?_) ?_))) <;> (try (simp only [go_sem, Int.cast_ofNat_Int, Nat.reduceEqDiff, reduceIte, Nat.reduceAdd, Nat.reduceMul, Nat.reduceLeDiff, Nat.reduceSub, Nat.reduceLT, Nat.zero_lt_succ, Int.reduceToNat, Int.reduceAdd, Int.reduceSub, Int.reduceMul, Int.reduceNeg, Int.reduceLT, Int.reduceLE, Int.reduceEq, Int.reduceBEq, Int.reduceBNe, Nat.reduceBEq, List.reduceReplicate]; try rfl))
                      · rw [dif_neg h]
                        have hz0 : F2.length = 0 := by omega
                        have hF0 : F2 = [] := List.eq_nil_of_length_eq_zero hz0
                        refine (le_nil 18 3 1 rfl).trans ((le_freeze 18 (o := g.length + 1 + 1 + 1) (e := 3) (sz := 1) (ver := 0) (xs := []) rfl ?_).trans ?_)
                        · simp
                        · simp only [hz0]
                          rw [show (o0 :: o1 :: AObj.arr 23 1 (ils ((axesOf F2 fd).take i)) v false :: g ++ [AObj.arr 3 1 [] 0 false]).set (g.length + 1 + 1 + 1) (AObj.arr 3 1 [] 0 true) = o0 :: o1 :: AObj.arr 23 1 (ils ((axesOf F2 fd).take i)) v false :: (g ++ [AObj.arr 3 1 [] 0 true]) by simp]
                          (refine Le.frame ?_; repeat' (first | exact leF_top _ | (with_reducible refine leF_sl ?_ ?_) | (refine leF_upd (LeR.of_eq ?_) ?_))) <;> (try (simp only [go_sem, Int.cast_ofNat_Int, Nat.reduceEqDiff, reduceIte, Nat.reduceAdd, Nat.reduceMul, Nat.reduceLeDiff, Nat.reduceSub, Nat.reduceLT, Nat.zero_lt_succ, Int.reduceToNat, Int.reduceAdd, Int.reduceSub, Int.reduceMul, Int.reduceNeg, Int.reduceLT, Int.reduceLE, Int.reduceEq, Int.reduceBEq, Int.reduceBNe, Nat.reduceBEq, List.reduceReplicate]; try rfl))
                    · rintro (⟨⟨j, hj⟩, w⟩ | w) K1
                      · have g5 : decide ((j : Int) < (F2.length : Int)) = true := decide_eq_true (by omega)
                        have hrl := rng_len j
                        have hrs := rng_succ j
                        repeat' (first
                          | with_reducible refine t_seq fun K => ?_
                          | with_reducible refine t_block ?_
                          | with_reducible refine t_scope ?_
                          | with_reducible refine t_label ?_
                          | with_reducible refine t_skip ?_
                          | with_reducible refine t_exit ?_
                          | with_reducible refine t_ret ?_
                          | with_reducible refine t_k ?_
                          | (with_reducible refine t_gF ?_)
                          | ((first | with_reducible refine t_kE ?_ | with_reducible refine t_kD ?_ | with_reducible refine t_gS ?_ | with_reducible refine t_kL ?_ | (with_reducible refine t_kLE ?_ ?_; rotate_left) | with_reducible refine t_region fun K => ?_ | with_reducible refine t_drawE (id := 11) (fun _ => true) [(0, true), (1, true), (2, true), (3, true), (4, true), (5, true), (7, true), (8, true), (9, true), (10, true), (11, true), (12, true), (6, false), (13, false), (14, true), (15, true)] (by kernel_rfl) fun K => ?_ | with_reducible refine t_draw (by kernel_rfl) fun K => ?_); simp only [go_sem, Int.cast_ofNat_Int, Nat.reduceEqDiff, reduceIte, Nat.reduceAdd, Nat.reduceMul, Nat.reduceLeDiff, Nat.reduceSub, Nat.reduceLT, Nat.zero_lt_succ, Int.reduceToNat, Int.reduceAdd, Int.reduceSub, Int.reduceMul, Int.reduceNeg, Int.reduceLT, Int.reduceLE, Int.reduceEq, Int.reduceBEq, Int.reduceBNe, Nat.reduceBEq, List.reduceReplicate, con15_f, con16_f, con17_f, con19_f, con27_f, con29_f, con30_f, g5, g2, k1, k2, hrs, ints_length, bools_length, Int.toNat_natCast])
                          | (with_reducible exact kp_nil)
                          | (with_reducible exact Kp.refl _)
                          | (with_reducible exact kp_to)
                          | (with_reducible refine kp_cons ?_)
                          | (with_reducible refine kp_arr ?_)
                          | (with_reducible refine kp_app ?_)
                          | ((with_reducible refine kp_skip ?_ ?_); rfl)
                          | ((with_reducible refine t_cond fun A B => ?_); simp only [go_sem, Int.cast_ofNat_Int, Nat.reduceEqDiff, reduceIte, Nat.reduceAdd, Nat.reduceMul, Nat.reduceLeDiff, Nat.reduceSub, Nat.reduceLT, Nat.zero_lt_succ, Int.reduceToNat, Int.reduceAdd, Int.reduceSub, Int.reduceMul, Int.reduceNeg, Int.reduceLT, Int.reduceLE, Int.reduceEq, Int.reduceBEq, Int.reduceBNe, Nat.reduceBEq, List.reduceReplicate, con15_f, con16_f, con17_f, con19_f, con27_f, con29_f, con30_f, g5, g2, k1, k2, hrs, ints_length, bools_length, Int.toNat_natCast]; first | (with_reducible refine A.h ?_) | (with_reducible refine B.h ?_) | refine And.intro (fun hc => A.h ?_) (fun hc => B.h ?_))
                          | simp only [thenQ_n, thenQ_r, thenQ_e, blockQ_n, blockQ_r, blockQ_e, scopeQ_n, scopeQ_r, scopeQ_e, Nat.reduceEqDiff, reduceIte]
                          | (with_reducible refine And.intro ?_ ?_)
                          | with_reducible intro vr)
                        all_goals try (intros; (try simp only [Bool.and_eq_true, Bool.or_eq_true, Bool.not_eq_true', decide_eq_true_eq, decide_eq_false_iff_not, beq_iff_eq, bne_iff_ne, ne_eq, inI64, List.length_append] at *) <;> omega)
                        by_cases hnx : j + 1 < F2.length
                        · refine ⟨.inl (⟨j + 1, hnx⟩, w + 1), by simp only; omega, ?_⟩
                          (refine Le.frame ?_; repeat' (first | exact leF_top _ | (with_reducible refine leF_sl ?_ ?_) | (refine leF_upd (LeR.of_eq ?_) ?_))) <;> (try (simp only [go_sem, Int.cast_ofNat_Int, Nat.reduceEqDiff, reduceIte, Nat.reduceAdd, Nat.reduceMul, Nat.reduceLeDiff, Nat.reduceSub, Nat.reduceLT, Nat.zero_lt_succ, Int.reduceToNat, Int.reduceAdd, Int.reduceSub, Int.reduceMul, Int.reduceNeg, Int.reduceLT, Int.reduceLE, Int.reduceEq, Int.reduceBEq, Int.reduceBNe, Nat.reduceBEq, List.reduceReplicate]; try rfl))
                        · refine ⟨.inr (w + 1), by simp only; omega, ?_⟩
                          have hjl : j + 1 = F2.length := by omega
                          refine (le_freeze 18 (o := g.length + 1 + 1 + 1) (e := 3) (sz := 1) (ver := w + 1) (xs := ints .i64 (rng (j + 1))) rfl ?_).trans ?_
                          · simp
                          · simp only [← hjl]
                            rw [show (o0 :: o1 :: AObj.arr 23 1 (ils ((axesOf F2 fd).take i)) v false :: (g ++ [AObj.arr 3 1 (ints .i64 (rng (j + 1))) (w + 1) false])).set (g.length + 1 + 1 + 1) (AObj.arr 3 1 (ints .i64 (rng (j + 1))) (w + 1) true) = o0 :: o1 :: AObj.arr 23 1 (ils ((axesOf F2 fd).take i)) v false :: (g ++ [AObj.arr 3 1 (ints .i64 (rng (j + 1))) (w + 1) true]) by simp]
                            (refine Le.frame ?_; repeat' (first | exact leF_top _ | (with_reducible refine leF_sl ?_ ?_) | (refine leF_upd (LeR.of_eq ?_) ?_))) <;> (try (simp only [go_sem, Int.cast_ofNat_Int, Nat.reduceEqDiff, reduceIte, Nat.reduceAdd, Nat.reduceMul, Nat.reduceLeDiff, Nat.reduceSub, Nat.reduceLT, Nat.zero_lt_succ, Int.reduceToNat, Int.reduceAdd, Int.reduceSub, Int.reduceMul, Int.reduceNeg, Int.reduceLT, Int.reduceLE, Int.reduceEq, Int.reduceBEq, Int.reduceBNe, Nat.reduceBEq, List.reduceReplicate]; try rfl))
                      · have g5 : decide ((F2.length : Int) < (F2.length : Int)) = false := decide_eq_false (by omega)
                        repeat' (first
                          | with_reducible refine t_seq fun K => ?_
                          | with_reducible refine t_block ?_
                          | with_reducible refine t_scope ?_
                          | with_reducible refine t_label ?_
                          | with_reducible refine t_skip ?_
                          | with_reducible refine t_exit ?_
                          | with_reducible refine t_ret ?_
                          | with_reducible refine t_k ?_
                          | (with_reducible refine t_gF ?_)
                          | ((first | with_reducible refine t_kE ?_ | with_reducible refine t_kD ?_ | with_reducible refine t_gS ?_ | with_reducible refine t_kL ?_ | (with_reducible refine t_kLE ?_ ?_; rotate_left) | with_reducible refine t_region fun K => ?_ | with_reducible refine t_drawE (id := 11) (fun _ => true) [(0, true), (1, true), (2, true), (3, true), (4, true), (5, true), (7, true), (8, true), (9, true), (10, true), (11, true), (12, true), (6, false), (13, false), (14, true), (15, true)] (by kernel_rfl) fun K => ?_ | with_reducible refine t_draw (by kernel_rfl) fun K => ?_); simp only [go_sem, Int.cast_ofNat_Int, Nat.reduceEqDiff, reduceIte, Nat.reduceAdd, Nat.reduceMul, Nat.reduceLeDiff, Nat.reduceSub, Nat.reduceLT, Nat.zero_lt_succ, Int.reduceToNat, Int.reduceAdd, Int.reduceSub, Int.reduceMul, Int.reduceNeg, Int.reduceLT, Int.reduceLE, Int.reduceEq, Int.reduceBEq, Int.reduceBNe, Nat.reduceBEq, List.reduceReplicate, con15_f, con16_f, con17_f, con19_f, con27_f, con29_f, con30_f, g5, hL, ils_app, ils_length])
                          | (with_reducible exact kp_nil)
                          | (with_reducible exact Kp.refl _)
                          | (with_reducible exact kp_to)
                          | (with_reducible refine kp_cons ?_)
                          | (with_reducible refine kp_arr ?_)
                          | (with_reducible refine kp_app ?_)
                          | ((with_reducible refine kp_skip ?_ ?_); rfl)
                          | ((with_reducible refine t_cond fun A B => ?_); simp only [go_sem, Int.cast_ofNat_Int, Nat.reduceEqDiff, reduceIte, Nat.reduceAdd, Nat.reduceMul, Nat.reduceLeDiff, Nat.reduceSub, Nat.reduceLT, Nat.zero_lt_succ, Int.reduceToNat, Int.reduceAdd, Int.reduceSub, Int.reduceMul, Int.reduceNeg, Int.reduceLT, Int.reduceLE, Int.reduceEq, Int.reduceBEq, Int.reduceBNe, Nat.reduceBEq, List.reduceReplicate, con15_f, con16_f, con17_f, con19_f, con27_f, con29_f, con30_f, g5, hL, ils_app, ils_length]; first | (with_reducible refine A.h ?_) | (with_reducible refine B.h ?_) | refine And.intro (fun hc => A.h ?_) (fun hc => B.h ?_))
                          | simp only [thenQ_n, thenQ_r, thenQ_e, blockQ_n, blockQ_r, blockQ_e, scopeQ_n, scopeQ_r, scopeQ_e, Nat.reduceEqDiff, reduceIte]
                          | (with_reducible refine And.intro ?_ ?_)
                          | with_reducible intro vr)
                        all_goals try (intros; (try simp only [Bool.and_eq_true, Bool.or_eq_true, Bool.not_eq_true', decide_eq_true_eq, decide_eq_false_iff_not, beq_iff_eq, bne_iff_ne, ne_eq, inI64, List.length_append] at *) <;> omega)
                        refine ⟨(⟨i + 1, by omega⟩, v + 1, g ++ [.arr 3 1 (ints .i64 (rng F2.length)) w true]), by simp only; omega, ?_⟩
                        (refine Le.frame ?_; repeat' (first | exact leF_top _ | (with_reducible refine leF_sl ?_ ?_) | (refine leF_upd (LeR.of_eq ?_) ?_))) <;> (try (simp only [go_sem, Int.cast_ofNat_Int, Nat.reduceEqDiff, reduceIte, Nat.reduceAdd, Nat.reduceMul, Nat.reduceLeDiff, Nat.reduceSub, Nat.reduceLT, Nat.zero_lt_succ, Int.reduceToNat, Int.reduceAdd, Int.reduceSub, Int.reduceMul, Int.reduceNeg, Int.reduceLT, Int.reduceLE, Int.reduceEq, Int.reduceBEq, Int.reduceBNe, Nat.reduceBEq, List.reduceReplicate]; try rfl))
                · have g1 : decide ((i : Int) < (l.length : Int)) = false := decide_eq_false (by omega)
                  have htk : (axesOf F2 fd).take i = axesOf F2 fd := List.take_of_length_le (by omega)
                  repeat' (first
                    | with_reducible refine t_seq fun K => ?_
                    | with_reducible refine t_block ?_
                    | with_reducible refine t_scope ?_
                    | with_reducible refine t_label ?_
                    | with_reducible refine t_skip ?_
                    | with_reducible refine t_exit ?_
                    | with_reducible refine t_ret ?_
                    | with_reducible refine t_k ?_
                    | (with_reducible refine t_gF ?_)
                    | ((first | with_reducible refine t_kE ?_ | with_reducible refine t_kD ?_ | with_reducible refine t_gS ?_ | with_reducible refine t_kL ?_ | (with_reducible refine t_kLE ?_ ?_; rotate_left) | with_reducible refine t_region fun K => ?_ | with_reducible refine t_drawE (id := 11) (fun _ => true) [(0, true), (1, true), (2, true), (3, true), (4, true), (5, true), (7, true), (8, true), (9, true), (10, true), (11, true), (12, true), (6, false), (13, false), (14, true), (15, true)] (by kernel_rfl) fun K => ?_ | with_reducible refine t_draw (by kernel_rfl) fun K => ?_); simp only [go_sem, Int.cast_ofNat_Int, Nat.reduceEqDiff, reduceIte, Nat.reduceAdd, Nat.reduceMul, Nat.reduceLeDiff, Nat.reduceSub, Nat.reduceLT, Nat.zero_lt_succ, Int.reduceToNat, Int.reduceAdd, Int.reduceSub, Int.reduceMul, Int.reduceNeg, Int.reduceLT, Int.reduceLE, Int.reduceEq, Int.reduceBEq, Int.reduceBNe, Nat.reduceBEq, List.reduceReplicate, con15_f, con16_f, con17_f, con19_f, con27_f, con29_f, con30_f, con27_c, g1, htk, ilsOf_sl, slK_sl, arrsOf_sl, hC])
                    | (with_reducible exact kp_nil)
                    | (with_reducible exact Kp.refl _)
                    | (with_reducible exact kp_to)
                    | (with_reducible refine kp_cons ?_)
                    | (with_reducible refine kp_arr ?_)
                    | (with_reducible refine kp_app ?_)
                    | ((with_reducible refine kp_skip ?_ ?_); rfl)
                    | ((with_reducible refine t_cond fun A B => ?_); simp only [go_sem, Int.cast_ofNat_Int, Nat.reduceEqDiff, reduceIte, Nat.reduceAdd, Nat.reduceMul, Nat.reduceLeDiff, Nat.reduceSub, Nat.reduceLT, Nat.zero_lt_succ, Int.reduceToNat, Int.reduceAdd, Int.reduceSub, Int.reduceMul, Int.reduceNeg, Int.reduceLT, Int.reduceLE, Int.reduceEq, Int.reduceBEq, Int.reduceBNe, Nat.reduceBEq, List.reduceReplicate, con15_f, con16_f, con17_f, con19_f, con27_f, con29_f, con30_f, con27_c, g1, htk, ilsOf_sl, slK_sl, arrsOf_sl, hC]; first | (with_reducible refine A.h ?_) | (with_reducible refine B.h ?_) | refine And.intro (fun hc => A.h ?_) (fun hc => B.h ?_))
                    | simp only [thenQ_n, thenQ_r, thenQ_e, blockQ_n, blockQ_r, blockQ_e, scopeQ_n, scopeQ_r, scopeQ_e, Nat.reduceEqDiff, reduceIte]
                    | (with_reducible refine And.intro ?_ ?_)
                    | with_reducible intro vr)
                  all_goals try (intros; (try simp only [Bool.and_eq_true, Bool.or_eq_true, Bool.not_eq_true', decide_eq_true_eq, decide_eq_false_iff_not, beq_iff_eq, bne_iff_ne, ne_eq, inI64, List.length_append] at *) <;> omega)
                  all_goals try first | exact fewL_ok hf _ (by assumption) | exact hr _ (by assumption) | exact hax _ (by assumption)
                  refine end_ret rfl ?_
                  simp only [fin, go_sem, Int.cast_ofNat_Int, Nat.reduceEqDiff, reduceIte, Nat.reduceAdd, Nat.reduceMul, Nat.reduceLeDiff, Nat.reduceSub, Nat.reduceLT, Nat.zero_lt_succ, Int.reduceToNat, Int.reduceAdd, Int.reduceSub, Int.reduceMul, Int.reduceNeg, Int.reduceLT, Int.reduceLE, Int.reduceEq, Int.reduceBEq, Int.reduceBNe, Nat.reduceBEq, List.reduceReplicate]
                  exact LeA.refl _
            · have s1 : (se != 0) = true := bne_iff_ne.2 s0
              repeat' (first
                | with_reducible refine t_seq fun K => ?_
                | with_reducible refine t_block ?_
                | with_reducible refine t_scope ?_
                | with_reducible refine t_label ?_
                | with_reducible refine t_skip ?_
                | with_reducible refine t_exit ?_
                | with_reducible refine t_ret ?_
                | with_reducible refine t_k ?_
                | (with_reducible refine t_gF ?_)
                | ((first | with_reducible refine t_kE ?_ | with_reducible refine t_kD ?_ | with_reducible refine t_gS ?_ | with_reducible refine t_kL ?_ | (with_reducible refine t_kLE ?_ ?_; rotate_left) | with_reducible refine t_region fun K => ?_ | with_reducible refine t_drawE (id := 11) (fun _ => true) [(0, true), (1, true), (2, true), (3, true), (4, true), (5, true), (7, true), (8, true), (9, true), (10, true), (11, true), (12, true), (6, false), (13, false), (14, true), (15, true)] (by kernel_rfl) fun K => ?_ | with_reducible refine t_draw (by kernel_rfl) fun K => ?_); simp only [go_sem, Int.cast_ofNat_Int, Nat.reduceEqDiff, reduceIte, Nat.reduceAdd, Nat.reduceMul, Nat.reduceLeDiff, Nat.reduceSub, Nat.reduceLT, Nat.zero_lt_succ, Int.reduceToNat, Int.reduceAdd, Int.reduceSub, Int.reduceMul, Int.reduceNeg, Int.reduceLT, Int.reduceLE, Int.reduceEq, Int.reduceBEq, Int.reduceBNe, Nat.reduceBEq, List.reduceReplicate, con15_f, con16_f, con17_f, con19_f, con27_f, con29_f, con30_f, con17_c, con19_c, con29_c, con30_c, g1, ht1, ht2, hap, hz, arrV_def, arrs_length, arrsOf_sl, slK_sl, slK_nil, hF2, frV_def, d1, m1, hS, szV_def, s1, bools_length, Bool.not_true])
                | (with_reducible exact kp_nil)
                | (with_reducible exact Kp.refl _)
                | (with_reducible exact kp_to)
                | (with_reducible refine kp_cons ?_)
                | (with_reducible refine kp_arr ?_)
                | (with_reducible refine kp_app ?_)
                | ((with_reducible refine kp_skip ?_ ?_); rfl)
                | ((with_reducible refine t_cond fun A B => ?_); simp only [go_sem, Int.cast_ofNat_Int, Nat.reduceEqDiff, reduceIte, Nat.reduceAdd, Nat.reduceMul, Nat.reduceLeDiff, Nat.reduceSub, Nat.reduceLT, Nat.zero_lt_succ, Int.reduceToNat, Int.reduceAdd, Int.reduceSub, Int.reduceMul, Int.reduceNeg, Int.reduceLT, Int.reduceLE, Int.reduceEq, Int.reduceBEq, Int.reduceBNe, Nat.reduceBEq, List.reduceReplicate, con15_f, con16_f, con17_f, con19_f, con27_f, con29_f, con30_f, con17_c, con19_c, con29_c, con30_c, g1, ht1, ht2, hap, hz, arrV_def, arrs_length, arrsOf_sl, slK_sl, slK_nil, hF2, frV_def, d1, m1, hS, szV_def, s1, bools_length, Bool.not_true]; first | (with_reducible refine A.h ?_) | (with_reducible refine B.h ?_) | refine And.intro (fun hc => A.h ?_) (fun hc => B.h ?_))
                | simp only [thenQ_n, thenQ_r, thenQ_e, blockQ_n, blockQ_r, blockQ_e, scopeQ_n, scopeQ_r, scopeQ_e, Nat.reduceEqDiff, reduceIte]
                | (with_reducible refine And.intro ?_ ?_)
                | with_reducible intro vr)
              all_goals try (intros; (try simp only [Bool.and_eq_true, Bool.or_eq_true, Bool.not_eq_true', decide_eq_true_eq, decide_eq_false_iff_not, beq_iff_eq, bne_iff_ne, ne_eq, inI64, List.length_append] at *) <;> omega)
              all_goals try first | exact hor _ (by assumption) | exact hrr _ (by assumption)
              refine end_ret rfl ?_
              simp only [fin, go_sem, Int.cast_ofNat_Int, Nat.reduceEqDiff, reduceIte, Nat.reduceAdd, Nat.reduceMul, Nat.reduceLeDiff, Nat.reduceSub, Nat.reduceLT, Nat.zero_lt_succ, Int.reduceToNat, Int.reduceAdd, Int.reduceSub, Int.reduceMul, Int.reduceNeg, Int.reduceLT, Int.reduceLE, Int.reduceEq, Int.reduceBEq, Int.reduceBNe, Nat.reduceBEq, List.reduceReplicate]
              exact LeA.refl _
          · have e1 : (er != 0) = true := bne_iff_ne.2 e0
            have e3 : (e2 != 0) = true := by
              have := frame_rev_no (sp := List.zipWith splitS l rs) (by rw [← hz1]; exact e0)
              rw [← hz2] at this
              exact bne_iff_ne.2 this
            repeat' (first
              | with_reducible refine t_seq fun K => ?_
              | with_reducible refine t_block ?_
              | with_reducible refine t_scope ?_
              | with_reducible refine t_label ?_
              | with_reducible refine t_skip ?_
              | with_reducible refine t_exit ?_
              | with_reducible refine t_ret ?_
              | with_reducible refine t_k ?_
              | (with_reducible refine t_gF ?_)
              | ((first | with_reducible refine t_kE ?_ | with_reducible refine t_kD ?_ | with_reducible refine t_gS ?_ | with_reducible refine t_kL ?_ | (with_reducible refine t_kLE ?_ ?_; rotate_left) | with_reducible refine t_region fun K => ?_ | with_reducible refine t_drawE (id := 11) (fun _ => true) [(0, true), (1, true), (2, true), (3, true), (4, true), (5, true), (7, true), (8, true), (9, true), (10, true), (11, true), (12, true), (6, false), (13, false), (14, true), (15, true)] (by kernel_rfl) fun K => ?_ | with_reducible refine t_draw (by kernel_rfl) fun K => ?_); simp only [go_sem, Int.cast_ofNat_Int, Nat.reduceEqDiff, reduceIte, Nat.reduceAdd, Nat.reduceMul, Nat.reduceLeDiff, Nat.reduceSub, Nat.reduceLT, Nat.zero_lt_succ, Int.reduceToNat, Int.reduceAdd, Int.reduceSub, Int.reduceMul, Int.reduceNeg, Int.reduceLT, Int.reduceLE, Int.reduceEq, Int.reduceBEq, Int.reduceBNe, Nat.reduceBEq, List.reduceReplicate, con15_f, con16_f, con17_f, con19_f, con27_f, con29_f, con30_f, con17_c, con29_c, g1, ht1, ht2, hap, hz, arrV_def, arrs_length, arrsOf_sl, slK_sl, slK_nil, hF2, frV_def, e1, e3])
              | (with_reducible exact kp_nil)
              | (with_reducible exact Kp.refl _)
              | (with_reducible exact kp_to)
              | (with_reducible refine kp_cons ?_)
              | (with_reducible refine kp_arr ?_)
              | (with_reducible refine kp_app ?_)
              | ((with_reducible refine kp_skip ?_ ?_); rfl)
              | ((with_reducible refine t_cond fun A B => ?_); simp only [go_sem, Int.cast_ofNat_Int, Nat.reduceEqDiff, reduceIte, Nat.reduceAdd, Nat.reduceMul, Nat.reduceLeDiff, Nat.reduceSub, Nat.reduceLT, Nat.zero_lt_succ, Int.reduceToNat, Int.reduceAdd, Int.reduceSub, Int.reduceMul, Int.reduceNeg, Int.reduceLT, Int.reduceLE, Int.reduceEq, Int.reduceBEq, Int.reduceBNe, Nat.reduceBEq, List.reduceReplicate, con15_f, con16_f, con17_f, con19_f, con27_f, con29_f, con30_f, con17_c, con29_c, g1, ht1, ht2, hap, hz, arrV_def, arrs_length, arrsOf_sl, slK_sl, slK_nil, hF2, frV_def, e1, e3]; first | (with_reducible refine A.h ?_) | (with_reducible refine B.h ?_) | refine And.intro (fun hc => A.h ?_) (fun hc => B.h ?_))
              | simp only [thenQ_n, thenQ_r, thenQ_e, blockQ_n, blockQ_r, blockQ_e, scopeQ_n, scopeQ_r, scopeQ_e, Nat.reduceEqDiff, reduceIte]
              | (with_reducible refine And.intro ?_ ?_)
              | with_reducible intro vr)
            all_goals try (intros; (try simp only [Bool.and_eq_true, Bool.or_eq_true, Bool.not_eq_true', decide_eq_true_eq, decide_eq_false_iff_not, beq_iff_eq, bne_iff_ne, ne_eq, inI64, List.length_append] at *) <;> omega)
            all_goals try first | exact hor _ (by assumption) | exact hrr _ (by assumption)
            refine end_ret rfl ?_
            simp only [fin, go_sem, Int.cast_ofNat_Int, Nat.reduceEqDiff, reduceIte, Nat.reduceAdd, Nat.reduceMul, Nat.reduceLeDiff, Nat.reduceSub, Nat.reduceLT, Nat.zero_lt_succ, Int.reduceToNat, Int.reduceAdd, Int.reduceSub, Int.reduceMul, Int.reduceNeg, Int.reduceLT, Int.reduceLE, Int.reduceEq, Int.reduceBEq, Int.reduceBNe, Nat.reduceBEq, List.reduceReplicate]
            exact LeA.refl _
    · have n1 : ((rs.length : Int) != (l.length : Int)) = true := by rw [bne_iff_ne]; omega
      refine pc_of E28_ok mixed (fun _ => [0, 1, 4, 5, 6, 7, 8, 9, 10, 11, 13, 15, 16, 17, 18, 19, 21, 31, 43, 73, 90, 97, 99, 100, 101, 104, 105, 106, 111]) Try.func6 rfl (by kernel_rfl) (Nat.le_of_ble_eq_true rfl) ?_
      simp only [initF_cons, initF_nil, Nat.reduceAdd]
      refine t_name fun KF => ?_
      unfold E28
      repeat' (first
        | with_reducible refine t_seq fun K => ?_
        | with_reducible refine t_block ?_
        | with_reducible refine t_scope ?_
        | with_reducible refine t_label ?_
        | with_reducible refine t_skip ?_
        | with_reducible refine t_exit ?_
        | with_reducible refine t_ret ?_
        | with_reducible refine t_k ?_
        | (with_reducible refine t_gF ?_)
        | ((first | with_reducible refine t_kE ?_ | with_reducible refine t_kD ?_ | with_reducible refine t_gS ?_ | with_reducible refine t_kL ?_ | (with_reducible refine t_kLE ?_ ?_; rotate_left) | with_reducible refine t_region fun K => ?_ | with_reducible refine t_drawE (id := 11) (fun _ => true) [(0, true), (1, true), (2, true), (3, true), (4, true), (5, true), (7, true), (8, true), (9, true), (10, true), (11, true), (12, true), (6, false), (13, false), (14, true), (15, true)] (by kernel_rfl) fun K => ?_ | with_reducible refine t_draw (by kernel_rfl) fun K => ?_); simp only [go_sem, Int.cast_ofNat_Int, Nat.reduceEqDiff, reduceIte, Nat.reduceAdd, Nat.reduceMul, Nat.reduceLeDiff, Nat.reduceSub, Nat.reduceLT, Nat.zero_lt_succ, Int.reduceToNat, Int.reduceAdd, Int.reduceSub, Int.reduceMul, Int.reduceNeg, Int.reduceLT, Int.reduceLE, Int.reduceEq, Int.reduceBEq, Int.reduceBNe, Nat.reduceBEq, List.reduceReplicate, con15_f, con16_f, con17_f, con19_f, con27_f, con29_f, con30_f, con15_c, con16_c, arrsOf_sl, hf, n1, arrs_length, Bool.not_true])
        | (with_reducible exact kp_nil)
        | (with_reducible exact Kp.refl _)
        | (with_reducible exact kp_to)
        | (with_reducible refine kp_cons ?_)
        | (with_reducible refine kp_arr ?_)
        | (with_reducible refine kp_app ?_)
        | ((with_reducible refine kp_skip ?_ ?_); rfl)
        | ((with_reducible refine t_cond fun A B => ?_); simp only [go_sem, Int.cast_ofNat_Int, Nat.reduceEqDiff, reduceIte, Nat.reduceAdd, Nat.reduceMul, Nat.reduceLeDiff, Nat.reduceSub, Nat.reduceLT, Nat.zero_lt_succ, Int.reduceToNat, Int.reduceAdd, Int.reduceSub, Int.reduceMul, Int.reduceNeg, Int.reduceLT, Int.reduceLE, Int.reduceEq, Int.reduceBEq, Int.reduceBNe, Nat.reduceBEq, List.reduceReplicate, con15_f, con16_f, con17_f, con19_f, con27_f, con29_f, con30_f, con15_c, con16_c, arrsOf_sl, hf, n1, arrs_length, Bool.not_true]; first | (with_reducible refine A.h ?_) | (with_reducible refine B.h ?_) | refine And.intro (fun hc => A.h ?_) (fun hc => B.h ?_))
        | simp only [thenQ_n, thenQ_r, thenQ_e, blockQ_n, blockQ_r, blockQ_e, scopeQ_n, scopeQ_r, scopeQ_e, Nat.reduceEqDiff, reduceIte]
        | (with_reducible refine And.intro ?_ ?_)
        | with_reducible intro vr)
      all_goals try (intros; (try simp only [Bool.and_eq_true, Bool.or_eq_true, Bool.not_eq_true', decide_eq_true_eq, decide_eq_false_iff_not, beq_iff_eq, bne_iff_ne, ne_eq, inI64, List.length_append] at *) <;> omega)
      refine end_ret rfl ?_
      simp only [fin, go_sem, Int.cast_ofNat_Int, Nat.reduceEqDiff, reduceIte, Nat.reduceAdd, Nat.reduceMul, Nat.reduceLeDiff, Nat.reduceSub, Nat.reduceLT, Nat.zero_lt_succ, Int.reduceToNat, Int.reduceAdd, Int.reduceSub, Int.reduceMul, Int.reduceNeg, Int.reduceLT, Int.reduceLE, Int.reduceEq, Int.reduceBEq, Int.reduceBNe, Nat.reduceBEq, List.reduceReplicate]
      exact LeA.refl _
  · have hf' : fewL l = false := by simpa using hf
    refine pc_of E28_ok mixed (fun _ => [0, 1, 4, 5, 6, 7, 8, 9, 10, 11, 13, 15, 16, 17, 18, 19, 21, 31, 43, 73, 90, 97, 99, 100, 101, 104, 105, 106, 111]) Try.func6 rfl (by kernel_rfl) (Nat.le_of_ble_eq_true rfl) ?_
    simp only [initF_cons, initF_nil, Nat.reduceAdd]
    refine t_name fun KF => ?_
    unfold E28
    repeat' (first
      | with_reducible refine t_seq fun K => ?_
      | with_reducible refine t_block ?_
      | with_reducible refine t_scope ?_
      | with_reducible refine t_label ?_
      | with_reducible refine t_skip ?_
      | with_reducible refine t_exit ?_
      | with_reducible refine t_ret ?_
      | with_reducible refine t_k ?_
      | (with_reducible refine t_gF ?_)
      | ((first | with_reducible refine t_kE ?_ | with_reducible refine t_kD ?_ | with_reducible refine t_gS ?_ | with_reducible refine t_kL ?_ | (with_reducible refine t_kLE ?_ ?_; rotate_left) | with_reducible refine t_region fun K => ?_ | with_reducible refine t_drawE (id := 11) (fun _ => true) [(0, true), (1, true), (2, true), (3, true), (4, true), (5, true), (7, true), (8, true), (9, true), (10, true), (11, true), (12, true), (6, false), (13, false), (14, true), (15, true)] (by kernel_rfl) fun K => ?_ | with_reducible refine t_draw (by kernel_rfl) fun K => ?_); simp only [go_sem, Int.cast_ofNat_Int, Nat.reduceEqDiff, reduceIte, Nat.reduceAdd, Nat.reduceMul, Nat.reduceLeDiff, Nat.reduceSub, Nat.reduceLT, Nat.zero_lt_succ, Int.reduceToNat, Int.reduceAdd, Int.reduceSub, Int.reduceMul, Int.reduceNeg, Int.reduceLT, Int.reduceLE, Int.reduceEq, Int.reduceBEq, Int.reduceBNe, Nat.reduceBEq, List.reduceReplicate, con15_f, con16_f, con17_f, con19_f, con27_f, con29_f, con30_f, con15_c, con16_c, arrsOf_sl, hf', arrs_length, Bool.not_true, Bool.not_false])
      | (with_reducible exact kp_nil)
      | (with_reducible exact Kp.refl _)
      | (with_reducible exact kp_to)
      | (with_reducible refine kp_cons ?_)
      | (with_reducible refine kp_arr ?_)
      | (with_reducible refine kp_app ?_)
      | ((with_reducible refine kp_skip ?_ ?_); rfl)
      | ((with_reducible refine t_cond fun A B => ?_); simp only [go_sem, Int.cast_ofNat_Int, Nat.reduceEqDiff, reduceIte, Nat.reduceAdd, Nat.reduceMul, Nat.reduceLeDiff, Nat.reduceSub, Nat.reduceLT, Nat.zero_lt_succ, Int.reduceToNat, Int.reduceAdd, Int.reduceSub, Int.reduceMul, Int.reduceNeg, Int.reduceLT, Int.reduceLE, Int.reduceEq, Int.reduceBEq, Int.reduceBNe, Nat.reduceBEq, List.reduceReplicate, con15_f, con16_f, con17_f, con19_f, con27_f, con29_f, con30_f, con15_c, con16_c, arrsOf_sl, hf', arrs_length, Bool.not_true, Bool.not_false]; first | (with_reducible refine A.h ?_) | (with_reducible refine B.h ?_) | refine And.intro (fun hc => A.h ?_) (fun hc => B.h ?_))
      | simp only [thenQ_n, thenQ_r, thenQ_e, blockQ_n, blockQ_r, blockQ_e, scopeQ_n, scopeQ_r, scopeQ_e, Nat.reduceEqDiff, reduceIte]
      | (with_reducible refine And.intro ?_ ?_)
      | with_reducible intro vr)
    all_goals try (intros; (try simp only [Bool.and_eq_true, Bool.or_eq_true, Bool.not_eq_true', decide_eq_true_eq, decide_eq_false_iff_not, beq_iff_eq, bne_iff_ne, ne_eq, inI64, List.length_append] at *) <;> omega)
    refine end_ret rfl ?_
    simp only [fin, go_sem, Int.cast_ofNat_Int, Nat.reduceEqDiff, reduceIte, Nat.reduceAdd, Nat.reduceMul, Nat.reduceLeDiff, Nat.reduceSub, Nat.reduceLT, Nat.zero_lt_succ, Int.reduceToNat, Int.reduceAdd, Int.reduceSub, Int.reduceMul, Int.reduceNeg, Int.reduceLT, Int.reduceLE, Int.reduceEq, Int.reduceBEq, Int.reduceBNe, Nat.reduceBEq, List.reduceReplicate]
    exact LeA.refl _
theorem agree_law : ∀ xs, ShL Try.prog Try.f6.params.toList xs → PC Try.prog 6 xs (.lit (.bool true))
  | [x, y], h => by
    obtain ⟨l, rfl, hl, _⟩ := shv_arrs h.1
    obtain ⟨rs, rfl, _, hr⟩ := shv_ints u23 u3 sz3 h.2.1
    exact agree_law_pc (by simpa [maxLen] using hl) fun n hn => wf_i64 (hr n hn)
  | [], h => h.elim
  | [_], h => h.2.elim
  | _ :: _ :: _ :: _, h => h.2.2.elim
end Go.Proofs.Ytjlcbojpiieafaa
