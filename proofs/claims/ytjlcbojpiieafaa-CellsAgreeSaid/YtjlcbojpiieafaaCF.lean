/- A law's arguments that are structs. -/
import Derived.Test.YtjlcbojpiieafaaCA
import Derived.Test.YtjlcbojpiieafaaFacts
import Derived.Test.YtjlcbojpiieafaaCE

set_option linter.all false

namespace Go.Proofs.Ytjlcbojpiieafaa
open Go Go.Fw

def fieldTs (P : Program) (t : TypeId) : List TypeId := match P.underlying t with
  | some (.struct fs) => fs.toList.map (·.type)
  | _ => []
theorem struct_of {P : Program} {t : TypeId} {ts : List TypeId} (hne : ts ≠ []) (h : fieldTs P t = ts) : ∃ fs : Array Field, P.underlying t = some (.struct fs) ∧ fs.toList.map (·.type) = ts := by
  unfold fieldTs at h
  split at h
  · rename_i e; exact ⟨_, e, h⟩
  · exact absurd h.symm hne
theorem sh_fields {P : Program} {t : TypeId} {ts : List TypeId} {xs : List AV} (hne : ts ≠ []) (ht : fieldTs P t = ts) (h : Sh P t xs) :
    ∃ xss : List (List AV), xs = xss.flatten ∧ xss.length = ts.length ∧ ∀ (i : Nat) (u : TypeId) (ys : List AV), ts[i]? = some u → xss[i]? = some ys → Sh P u ys := by
  obtain ⟨fs, hf, hm⟩ := struct_of hne ht
  obtain ⟨xss, h1, h2, h3⟩ := sh_struct hf h
  refine ⟨xss, h1, by rw [h2, ← hm]; simp, fun i u ys hu hy => ?_⟩
  rw [← hm, List.getElem?_map] at hu
  cases hi : fs.toList[i]? with
  | none => rw [hi] at hu; cases hu
  | some f => rw [hi] at hu; cases hu; exact h3 i f ys hi hy
theorem sh_three {P : Program} {t a b c : TypeId} {xs : List AV} (ht : fieldTs P t = [a, b, c]) (h : Sh P t xs) : ∃ p q r, xs = p ++ (q ++ r) ∧ Sh P a p ∧ Sh P b q ∧ Sh P c r := by
  obtain ⟨xss, h1, h2, h3⟩ := sh_fields (by simp) ht h
  match xss, h2 with
  | [p, q, r], _ => exact ⟨p, q, r, by simpa using h1, h3 0 a p rfl rfl, h3 1 b q rfl rfl, h3 2 c r rfl rfl⟩
theorem sh_two {P : Program} {t a b : TypeId} {xs : List AV} (ht : fieldTs P t = [a, b]) (h : Sh P t xs) : ∃ p q, xs = p ++ q ∧ Sh P a p ∧ Sh P b q := by
  obtain ⟨xss, h1, h2, h3⟩ := sh_fields (by simp) ht h
  match xss, h2 with
  | [p, q], _ => exact ⟨p, q, by simpa using h1, h3 0 a p rfl rfl, h3 1 b q rfl rfl⟩
theorem ft33 : fieldTs Try.prog 33 = [9, 23, 23] := by kernel_rfl
def okW (a : Arr) : Prop := (∀ n ∈ a.d, inI64 n) ∧ (∀ n ∈ a.x, inI64 n) ∧ a.d.length ≤ maxLen ∧ a.x.length ≤ maxLen
theorem shv_arr {x : AV} (h : ShV Try.prog 33 x) : ∃ a : Arr, x = arrV a ∧ okW a := by
  obtain ⟨c, rfl, hc⟩ := shv_agg ag33 h
  obtain ⟨p, q, r, rfl, hp, hq, hr⟩ := sh_three ft33 hc
  obtain ⟨s, rfl, hs⟩ := sh_str u9 hp
  obtain ⟨d, rfl, hd, hd'⟩ := sh_ints u23 u3 sz3 hq
  obtain ⟨w, rfl, hw, hw'⟩ := sh_ints u23 u3 sz3 hr
  exact ⟨⟨s, d, w⟩, rfl, fun n hn => wf_i64 (hd' n hn), fun n hn => wf_i64 (hw' n hn), hd, hw⟩
theorem list_arrs {q : Arr → Prop} : ∀ {ys : List AV}, (∀ y ∈ ys, ∃ a, y = arrV a ∧ q a) → ∃ l : List Arr, ys = arrs l ∧ ∀ a ∈ l, q a
  | [], _ => ⟨[], rfl, by simp⟩
  | y :: ys, h => by
    obtain ⟨n, rfl, hn⟩ := h y (by simp)
    obtain ⟨l, rfl, hl⟩ := list_arrs (ys := ys) fun z hz => h z (by simp [hz])
    exact ⟨n :: l, rfl, fun m hm => by rcases List.mem_cons.1 hm with rfl | hm; exact hn; exact hl m hm⟩
theorem shv_arrs {x : AV} (h : ShV Try.prog 22 x) : ∃ l : List Arr, x = .sl false 3 (arrs l) ∧ l.length ≤ maxLen ∧ ∀ a ∈ l, okW a := by
  obtain ⟨ys, rfl, hl, hy⟩ := shv_slice u22 h
  obtain ⟨l, rfl, hq⟩ := list_arrs fun y hm => shv_arr (hy y hm)
  exact ⟨l, by rw [sz33], by simpa [arrs] using hl, hq⟩
end Go.Proofs.Ytjlcbojpiieafaa

/- The examples of the document; the law on frames. -/
namespace Go.Proofs.Ytjlcbojpiieafaa
open Go Go.Fw

def zz (n : Nat) : List Int := List.replicate n 0
theorem okA_zz {e : ByteArray} {d : List Int} {n : Nat} (hd : d.length ≤ 1000000) (hn : n ≤ 1000000) : okA ⟨e, d, zz n⟩ := ⟨hd, by simpa [zz] using hn⟩
theorem inI64_small {n : Int} (h : 0 ≤ n ∧ n ≤ 10) : inI64 n := by unfold inI64; omega
noncomputable def E17 : Env := envOf (P := Try.prog) zer (fun _ => false) (fun _ => false) [con17, con19, con20, con29] []
theorem E17_ok : EnvOk Try.prog E17 := envOk zer_ok
set_option maxRecDepth 20000 in
set_option maxHeartbeats 4000000 in
theorem awake_pc : PC Try.prog 15 [] (.lit (.bool true)) := by
  have z1 : zerosS sInt [2, 3, 4] = (⟨sInt, [2, 3, 4], zz 24⟩, 0) := rfl
  have z2 : zerosS sInt [2, 3] = (⟨sInt, [2, 3], zz 6⟩, 0) := rfl
  have z3 : zerosS sInt [3] = (⟨sInt, [3], zz 3⟩, 0) := rfl
  have s1 : splitS ⟨sInt, [2, 3, 4], zz 24⟩ 2 = ([2], [3, 4], 0) := rfl
  have f1 : frameS [⟨sInt, [2, 3], zz 6⟩, ⟨sInt, [3], zz 3⟩] [1, 1] = ([2], [true, false], 0) := rfl
  have f2 : frameS [⟨sInt, [2, 3], zz 6⟩, ⟨sInt, [3], zz 3⟩] [0, 0] = ([], [], 13) := rfl
  have b0 : (bools [true, false]).getD 0 .top = .lit (.bool true) := rfl
  have b1 : (bools [true, false]).getD 1 .top = .lit (.bool false) := rfl
  have d1 : decide (([2] : List Int) = [2]) = true := rfl
  have d2 : decide (([3, 4] : List Int) = [3, 4]) = true := rfl
  refine pc_of E17_ok mixed (fun _ => [0, 1, 2, 3, 4, 5, 6, 9]) Try.func15 rfl (by kernel_rfl) (Nat.le_of_ble_eq_true rfl) ?_
  simp only [initF_cons, initF_nil, Nat.reduceAdd]
  refine t_name fun KF => ?_
  unfold E17
  repeat' (first
    | with_reducible refine t_seq fun K => ?_
    | with_reducible refine t_block ?_
    | with_reducible refine t_scope ?_
    | with_reducible refine t_label ?_
    | with_reducible refine t_skip ?_
    | with_reducible refine t_exit ?_
    | with_reducible refine t_ret ?_
    | with_reducible refine t_k ?_
    | (with_reducible refine t_gF ?_)
    | ((first | with_reducible refine t_kE ?_ | with_reducible refine t_kD ?_ | with_reducible refine t_gS ?_ | with_reducible refine t_kL ?_ | (with_reducible refine t_kLE ?_ ?_; rotate_left) | with_reducible refine t_region fun K => ?_ | with_reducible refine t_draw (by kernel_rfl) fun K => ?_); simp only [go_sem, Int.cast_ofNat_Int, Nat.reduceEqDiff, reduceIte, Nat.reduceAdd, Nat.reduceMul, Nat.reduceLeDiff, Nat.reduceSub, Nat.reduceLT, Nat.zero_lt_succ, Int.reduceToNat, Int.reduceAdd, Int.reduceSub, Int.reduceMul, Int.reduceNeg, Int.reduceLT, Int.reduceLE, Int.reduceEq, Int.reduceBEq, Int.reduceBNe, Nat.reduceBEq, List.reduceReplicate, con17_f, con19_f, con20_f, con29_f, con17_c, con19_c, con20_c, con29_c, slK_sl, slK_cons, slK_emp, z1, z2, z3, s1, f1, f2, b0, b1, d1, d2, arrsOf_x, arrL_cons, arrL_nil, arrOf_agg, arrV_def, spV_def, frV_def, bools_length])
    | (with_reducible exact kp_nil)
    | (with_reducible exact Kp.refl _)
    | (with_reducible exact kp_to)
    | (with_reducible refine kp_cons ?_)
    | (with_reducible refine kp_arr ?_)
    | (with_reducible refine kp_app ?_)
    | ((with_reducible refine kp_skip ?_ ?_); rfl)
    | ((with_reducible refine t_cond fun A B => ?_); simp only [go_sem, Int.cast_ofNat_Int, Nat.reduceEqDiff, reduceIte, Nat.reduceAdd, Nat.reduceMul, Nat.reduceLeDiff, Nat.reduceSub, Nat.reduceLT, Nat.zero_lt_succ, Int.reduceToNat, Int.reduceAdd, Int.reduceSub, Int.reduceMul, Int.reduceNeg, Int.reduceLT, Int.reduceLE, Int.reduceEq, Int.reduceBEq, Int.reduceBNe, Nat.reduceBEq, List.reduceReplicate, con17_f, con19_f, con20_f, con29_f, con17_c, con19_c, con20_c, con29_c, slK_sl, slK_cons, slK_emp, z1, z2, z3, s1, f1, f2, b0, b1, d1, d2, arrsOf_x, arrL_cons, arrL_nil, arrOf_agg, arrV_def, spV_def, frV_def, bools_length]; first | (with_reducible refine A.h ?_) | (with_reducible refine B.h ?_) | refine And.intro (fun hc => A.h ?_) (fun hc => B.h ?_))
    | simp only [thenQ_n, thenQ_r, thenQ_e, blockQ_n, blockQ_r, blockQ_e, scopeQ_n, scopeQ_r, scopeQ_e, Nat.reduceEqDiff, reduceIte]
    | (with_reducible refine And.intro ?_ ?_)
    | with_reducible intro vr)
  all_goals try (intros; (try simp only [Bool.and_eq_true, Bool.or_eq_true, Bool.not_eq_true', decide_eq_true_eq, decide_eq_false_iff_not, beq_iff_eq, bne_iff_ne, ne_eq, inI64, List.length_append] at *) <;> omega)
  all_goals try exact okA_zz (by simp) (by omega)
  all_goals try (simp only [List.mem_cons, List.not_mem_nil, or_false] at vr; rcases vr with rfl | rfl <;> first | exact okA_zz (by simp) (by omega) | exact inI64_small (by omega))
  refine end_ret rfl ?_
  simp only [fin, go_sem, Int.cast_ofNat_Int, Nat.reduceEqDiff, reduceIte, Nat.reduceAdd, Nat.reduceMul, Nat.reduceLeDiff, Nat.reduceSub, Nat.reduceLT, Nat.zero_lt_succ, Int.reduceToNat, Int.reduceAdd, Int.reduceSub, Int.reduceMul, Int.reduceNeg, Int.reduceLT, Int.reduceLE, Int.reduceEq, Int.reduceBEq, Int.reduceBNe, Nat.reduceBEq, List.reduceReplicate]
  exact LeA.refl _
noncomputable def con15 : PCon Try.prog where
  f := 15
  c := fun
    | [] => some (True, .lit (.bool true))
    | _ => none
  ok := by
    intro args p r hc hp
    split at hc
    · cases hc; exact awake_pc
    · cases hc
  fk := fk15
theorem con15_f : con15.f = 15 := rfl
theorem con15_c  : con15.c [] = some (True, .lit (.bool true)) := rfl
theorem fewL_spec {l : List Arr} (h : fewL l = true) : l.length ≤ 4 ∧ ∀ a ∈ l, a.e.size ≤ 20 ∧ a.d.length ≤ 8 ∧ a.x.length ≤ 100 := by
  unfold fewL at h
  rw [Bool.and_eq_true, List.all_eq_true, decide_eq_true_eq] at h
  refine ⟨by omega, fun a ha => ?_⟩
  have := h.1 a ha
  unfold fewA at this
  simp only [Bool.and_eq_true, decide_eq_true_eq] at this
  omega
theorem fewL_ok {l : List Arr} (h : fewL l = true) : ∀ a ∈ l, okA a := fun a ha => by have := (fewL_spec h).2 a ha; exact ⟨by omega, by omega⟩
theorem frameG_len : ∀ (l : List Arr) (rs fr : List Int) (fd : List Bool), fr.length ≤ 1000000 → (∀ a ∈ l, okA a) → (frameG l rs fr fd).1.length ≤ 1000000 ∧ (frameG l rs fr fd).2.1.length ≤ fd.length + l.length
  | [], _, fr, fd, h, _ => by simp [frameG, h]
  | _ :: _, [], fr, fd, h, _ => by simp [frameG, h]
  | a :: l, r :: rs, fr, fd, h, hl => by
    have ih : ∀ fr', fr'.length ≤ 1000000 → ∀ b, (frameG l rs fr' (fd ++ [b])).1.length ≤ 1000000 ∧ (frameG l rs fr' (fd ++ [b])).2.1.length ≤ fd.length + (a :: l).length := fun fr' h' b => by
      have := frameG_len l rs fr' (fd ++ [b]) h' fun x hx => hl x (by simp [hx])
      simp only [List.length_append, List.length_cons, List.length_nil] at this ⊢
      omega
    have hs := splitS_len r (hl a (by simp))
    unfold frameG
    split
    · simp
    split
    · exact ih fr h false
    split
    · exact ih _ hs.1 true
    split
    · simp
    split
    · simp
    · exact ih fr h true
theorem frameS_len {l : List Arr} {rs : List Int} (hl : ∀ a ∈ l, okA a) : (frameS l rs).1.length ≤ 1000000 ∧ (frameS l rs).2.1.length ≤ l.length := by
  unfold frameS
  split
  · simp
  · simpa using frameG_len l rs [] [] (by simp) hl
theorem dself {α : Type} [DecidableEq α] (a : α) : decide (a = a) = true := decide_eq_true rfl
noncomputable def E18 : Env := envOf (P := Try.prog) zer (fun _ => false) (fun _ => false) [con15, con16, con17, con18, con19] []
theorem E18_ok : EnvOk Try.prog E18 := envOk zer_ok
set_option maxRecDepth 20000 in
set_option maxHeartbeats 2000000 in
theorem frame_law_pc {l : List Arr} {rs : List Int} (hm : l.length ≤ 9223372036854775807) (hr : ∀ r ∈ rs, inI64 r) : PC Try.prog 3 [.sl false 3 (arrs l), .sl false 1 (ints .i64 rs)] (.lit (.bool true)) := by
  by_cases hf : fewL l = true
  · by_cases h8 : rs.length > 8
    · have g8 : decide ((rs.length : Int) > 8) = true := decide_eq_true (by omega)
      refine pc_of E18_ok mixed (fun _ => [0, 1, 4, 5, 6, 7, 8, 9, 10, 11, 13, 21, 51, 53, 54, 55, 65]) Try.func3 rfl (by kernel_rfl) (Nat.le_of_ble_eq_true rfl) ?_
      simp only [initF_cons, initF_nil, Nat.reduceAdd]
      refine t_name fun KF => ?_
      unfold E18
      repeat' (first
        | with_reducible refine t_seq fun K => ?_
        | with_reducible refine t_block ?_
        | with_reducible refine t_scope ?_
        | with_reducible refine t_label ?_
        | with_reducible refine t_skip ?_
        | with_reducible refine t_exit ?_
        | with_reducible refine t_ret ?_
        | with_reducible refine t_k ?_
        | (with_reducible refine t_gF ?_)
        | ((first | with_reducible refine t_kE ?_ | with_reducible refine t_kD ?_ | with_reducible refine t_gS ?_ | with_reducible refine t_kL ?_ | (with_reducible refine t_kLE ?_ ?_; rotate_left) | with_reducible refine t_region fun K => ?_ | with_reducible refine t_draw (by kernel_rfl) fun K => ?_); simp only [go_sem, Int.cast_ofNat_Int, Nat.reduceEqDiff, reduceIte, Nat.reduceAdd, Nat.reduceMul, Nat.reduceLeDiff, Nat.reduceSub, Nat.reduceLT, Nat.zero_lt_succ, Int.reduceToNat, Int.reduceAdd, Int.reduceSub, Int.reduceMul, Int.reduceNeg, Int.reduceLT, Int.reduceLE, Int.reduceEq, Int.reduceBEq, Int.reduceBNe, Nat.reduceBEq, List.reduceReplicate, con15_f, con16_f, con17_f, con18_f, con19_f, con15_c, con16_c, arrsOf_sl, hf, g8, Bool.not_true])
        | (with_reducible exact kp_nil)
        | (with_reducible exact Kp.refl _)
        | (with_reducible exact kp_to)
        | (with_reducible refine kp_cons ?_)
        | (with_reducible refine kp_arr ?_)
        | (with_reducible refine kp_app ?_)
        | ((with_reducible refine kp_skip ?_ ?_); rfl)
        | ((with_reducible refine t_cond fun A B => ?_); simp only [go_sem, Int.cast_ofNat_Int, Nat.reduceEqDiff, reduceIte, Nat.reduceAdd, Nat.reduceMul, Nat.reduceLeDiff, Nat.reduceSub, Nat.reduceLT, Nat.zero_lt_succ, Int.reduceToNat, Int.reduceAdd, Int.reduceSub, Int.reduceMul, Int.reduceNeg, Int.reduceLT, Int.reduceLE, Int.reduceEq, Int.reduceBEq, Int.reduceBNe, Nat.reduceBEq, List.reduceReplicate, con15_f, con16_f, con17_f, con18_f, con19_f, con15_c, con16_c, arrsOf_sl, hf, g8, Bool.not_true]; first | (with_reducible refine A.h ?_) | (with_reducible refine B.h ?_) | refine And.intro (fun hc => A.h ?_) (fun hc => B.h ?_))
        | simp only [thenQ_n, thenQ_r, thenQ_e, blockQ_n, blockQ_r, blockQ_e, scopeQ_n, scopeQ_r, scopeQ_e, Nat.reduceEqDiff, reduceIte]
        | (with_reducible refine And.intro ?_ ?_)
        | with_reducible intro vr)
      all_goals try (intros; (try simp only [Bool.and_eq_true, Bool.or_eq_true, Bool.not_eq_true', decide_eq_true_eq, decide_eq_false_iff_not, beq_iff_eq, bne_iff_ne, ne_eq, inI64, List.length_append] at *) <;> omega)
      refine end_ret rfl ?_
      simp only [fin, go_sem, Int.cast_ofNat_Int, Nat.reduceEqDiff, reduceIte, Nat.reduceAdd, Nat.reduceMul, Nat.reduceLeDiff, Nat.reduceSub, Nat.reduceLT, Nat.zero_lt_succ, Int.reduceToNat, Int.reduceAdd, Int.reduceSub, Int.reduceMul, Int.reduceNeg, Int.reduceLT, Int.reduceLE, Int.reduceEq, Int.reduceBEq, Int.reduceBNe, Nat.reduceBEq, List.reduceReplicate]
      exact LeA.refl _
    · have g8 : decide ((rs.length : Int) > 8) = false := decide_eq_false (by omega)
      have hlen := frameS_len (rs := rs) (fewL_ok hf)
      have h4 := (fewL_spec hf).1
      generalize hF : frameS l rs = p at hlen
      obtain ⟨fr, fd, er⟩ := p
      simp only at hlen
      have d1 := dself fr
      refine pc_of E18_ok mixed (fun _ => [0, 1, 4, 5, 6, 7, 8, 9, 10, 11, 13, 21, 51, 53, 54, 55, 65]) Try.func3 rfl (by kernel_rfl) (Nat.le_of_ble_eq_true rfl) ?_
      simp only [initF_cons, initF_nil, Nat.reduceAdd]
      refine t_name fun KF => ?_
      unfold E18
      repeat' (first
        | with_reducible refine t_seq fun K => ?_
        | with_reducible refine t_block ?_
        | with_reducible refine t_scope ?_
        | with_reducible refine t_label ?_
        | with_reducible refine t_skip ?_
        | with_reducible refine t_exit ?_
        | with_reducible refine t_ret ?_
        | with_reducible refine t_k ?_
        | (with_reducible refine t_gF ?_)
        | ((first | with_reducible refine t_kE ?_ | with_reducible refine t_kD ?_ | with_reducible refine t_gS ?_ | with_reducible refine t_kL ?_ | (with_reducible refine t_kLE ?_ ?_; rotate_left) | with_reducible refine t_region fun K => ?_ | with_reducible refine t_draw (by kernel_rfl) fun K => ?_); simp only [go_sem, Int.cast_ofNat_Int, Nat.reduceEqDiff, reduceIte, Nat.reduceAdd, Nat.reduceMul, Nat.reduceLeDiff, Nat.reduceSub, Nat.reduceLT, Nat.zero_lt_succ, Int.reduceToNat, Int.reduceAdd, Int.reduceSub, Int.reduceMul, Int.reduceNeg, Int.reduceLT, Int.reduceLE, Int.reduceEq, Int.reduceBEq, Int.reduceBNe, Nat.reduceBEq, List.reduceReplicate, con15_f, con16_f, con17_f, con18_f, con19_f, con15_c, con16_c, con17_c, con18_c, con19_c, arrsOf_sl, slK_sl, hf, g8, hF, frV_def, d1, bne_self_eq_false, bools_length, Bool.not_true])
        | (with_reducible exact kp_nil)
        | (with_reducible exact Kp.refl _)
        | (with_reducible exact kp_to)
        | (with_reducible refine kp_cons ?_)
        | (with_reducible refine kp_arr ?_)
        | (with_reducible refine kp_app ?_)
        | ((with_reducible refine kp_skip ?_ ?_); rfl)
        | ((with_reducible refine t_cond fun A B => ?_); simp only [go_sem, Int.cast_ofNat_Int, Nat.reduceEqDiff, reduceIte, Nat.reduceAdd, Nat.reduceMul, Nat.reduceLeDiff, Nat.reduceSub, Nat.reduceLT, Nat.zero_lt_succ, Int.reduceToNat, Int.reduceAdd, Int.reduceSub, Int.reduceMul, Int.reduceNeg, Int.reduceLT, Int.reduceLE, Int.reduceEq, Int.reduceBEq, Int.reduceBNe, Nat.reduceBEq, List.reduceReplicate, con15_f, con16_f, con17_f, con18_f, con19_f, con15_c, con16_c, con17_c, con18_c, con19_c, arrsOf_sl, slK_sl, hf, g8, hF, frV_def, d1, bne_self_eq_false, bools_length, Bool.not_true]; first | (with_reducible refine A.h ?_) | (with_reducible refine B.h ?_) | refine And.intro (fun hc => A.h ?_) (fun hc => B.h ?_))
        | simp only [thenQ_n, thenQ_r, thenQ_e, blockQ_n, blockQ_r, blockQ_e, scopeQ_n, scopeQ_r, scopeQ_e, Nat.reduceEqDiff, reduceIte]
        | (with_reducible refine And.intro ?_ ?_)
        | with_reducible intro vr)
      all_goals try (intros; (try simp only [Bool.and_eq_true, Bool.or_eq_true, Bool.not_eq_true', decide_eq_true_eq, decide_eq_false_iff_not, beq_iff_eq, bne_iff_ne, ne_eq, inI64, List.length_append] at *) <;> omega)
      all_goals try exact fewL_ok hf _ (by assumption)
      all_goals try exact hr _ (by assumption)
      refine t_loop (ι := { i : Nat // i ≤ fd.length }) (fun i => ⟨upd (upd (upd (upd topF 54 (.lit (.int .i64 i.1))) 53 (.lit (.int .i64 fd.length))) 9 (.sl false 1 (bools fd))) 6 (.sl false 1 (bools fd)), []⟩) (fun i => fd.length - i.1) ⟨0, by omega⟩ ?_ ?_
      · skip
        (refine Le.frame ?_; repeat' (first | exact leF_top _ | (with_reducible refine leF_sl ?_ ?_) | (refine leF_upd (LeR.of_eq ?_) ?_))) <;> (try (simp only [go_sem, Int.cast_ofNat_Int, Nat.reduceEqDiff, reduceIte, Nat.reduceAdd, Nat.reduceMul, Nat.reduceLeDiff, Nat.reduceSub, Nat.reduceLT, Nat.zero_lt_succ, Int.reduceToNat, Int.reduceAdd, Int.reduceSub, Int.reduceMul, Int.reduceNeg, Int.reduceLT, Int.reduceLE, Int.reduceEq, Int.reduceBEq, Int.reduceBNe, Nat.reduceBEq, List.reduceReplicate]; try rfl))
      · rintro ⟨i, hi⟩ K0
        rcases Nat.lt_or_ge i fd.length with hc | hc
        · have g1 : decide ((i : Int) < (fd.length : Int)) = true := decide_eq_true (by omega)
          have g2 := bools_getD fd i hc
          have g3 := bools_length fd
          repeat' (first
            | with_reducible refine t_seq fun K => ?_
            | with_reducible refine t_block ?_
            | with_reducible refine t_scope ?_
            | with_reducible refine t_label ?_
            | with_reducible refine t_skip ?_
            | with_reducible refine t_exit ?_
            | with_reducible refine t_ret ?_
            | with_reducible refine t_k ?_
            | (with_reducible refine t_gF ?_)
            | ((first | with_reducible refine t_kE ?_ | with_reducible refine t_kD ?_ | with_reducible refine t_gS ?_ | with_reducible refine t_kL ?_ | (with_reducible refine t_kLE ?_ ?_; rotate_left) | with_reducible refine t_region fun K => ?_ | with_reducible refine t_draw (by kernel_rfl) fun K => ?_); simp only [go_sem, Int.cast_ofNat_Int, Nat.reduceEqDiff, reduceIte, Nat.reduceAdd, Nat.reduceMul, Nat.reduceLeDiff, Nat.reduceSub, Nat.reduceLT, Nat.zero_lt_succ, Int.reduceToNat, Int.reduceAdd, Int.reduceSub, Int.reduceMul, Int.reduceNeg, Int.reduceLT, Int.reduceLE, Int.reduceEq, Int.reduceBEq, Int.reduceBNe, Nat.reduceBEq, List.reduceReplicate, con15_f, con16_f, con17_f, con18_f, con19_f, g1, g2, g3, Int.toNat_natCast, bne_self_eq_false])
            | (with_reducible exact kp_nil)
            | (with_reducible exact Kp.refl _)
            | (with_reducible exact kp_to)
            | (with_reducible refine kp_cons ?_)
            | (with_reducible refine kp_arr ?_)
            | (with_reducible refine kp_app ?_)
            | ((with_reducible refine kp_skip ?_ ?_); rfl)
            | ((with_reducible refine t_cond fun A B => ?_); simp only [go_sem, Int.cast_ofNat_Int, Nat.reduceEqDiff, reduceIte, Nat.reduceAdd, Nat.reduceMul, Nat.reduceLeDiff, Nat.reduceSub, Nat.reduceLT, Nat.zero_lt_succ, Int.reduceToNat, Int.reduceAdd, Int.reduceSub, Int.reduceMul, Int.reduceNeg, Int.reduceLT, Int.reduceLE, Int.reduceEq, Int.reduceBEq, Int.reduceBNe, Nat.reduceBEq, List.reduceReplicate, con15_f, con16_f, con17_f, con18_f, con19_f, g1, g2, g3, Int.toNat_natCast, bne_self_eq_false]; first | (with_reducible refine A.h ?_) | (with_reducible refine B.h ?_) | refine And.intro (fun hc => A.h ?_) (fun hc => B.h ?_))
            | simp only [thenQ_n, thenQ_r, thenQ_e, blockQ_n, blockQ_r, blockQ_e, scopeQ_n, scopeQ_r, scopeQ_e, Nat.reduceEqDiff, reduceIte]
            | (with_reducible refine And.intro ?_ ?_)
            | with_reducible intro vr)
          all_goals try (intros; (try simp only [Bool.and_eq_true, Bool.or_eq_true, Bool.not_eq_true', decide_eq_true_eq, decide_eq_false_iff_not, beq_iff_eq, bne_iff_ne, ne_eq, inI64, List.length_append] at *) <;> omega)
          refine ⟨⟨i + 1, by omega⟩, by simp only; omega, ?_⟩
          (refine Le.frame ?_; repeat' (first | exact leF_top _ | (with_reducible refine leF_sl ?_ ?_) | (refine leF_upd (LeR.of_eq ?_) ?_))) <;> (try (simp only [go_sem, Int.cast_ofNat_Int, Nat.reduceEqDiff, reduceIte, Nat.reduceAdd, Nat.reduceMul, Nat.reduceLeDiff, Nat.reduceSub, Nat.reduceLT, Nat.zero_lt_succ, Int.reduceToNat, Int.reduceAdd, Int.reduceSub, Int.reduceMul, Int.reduceNeg, Int.reduceLT, Int.reduceLE, Int.reduceEq, Int.reduceBEq, Int.reduceBNe, Nat.reduceBEq, List.reduceReplicate]; try rfl))
        · have g1 : decide ((i : Int) < (fd.length : Int)) = false := decide_eq_false (by omega)
          repeat' (first
            | with_reducible refine t_seq fun K => ?_
            | with_reducible refine t_block ?_
            | with_reducible refine t_scope ?_
            | with_reducible refine t_label ?_
            | with_reducible refine t_skip ?_
            | with_reducible refine t_exit ?_
            | with_reducible refine t_ret ?_
            | with_reducible refine t_k ?_
            | (with_reducible refine t_gF ?_)
            | ((first | with_reducible refine t_kE ?_ | with_reducible refine t_kD ?_ | with_reducible refine t_gS ?_ | with_reducible refine t_kL ?_ | (with_reducible refine t_kLE ?_ ?_; rotate_left) | with_reducible refine t_region fun K => ?_ | with_reducible refine t_draw (by kernel_rfl) fun K => ?_); simp only [go_sem, Int.cast_ofNat_Int, Nat.reduceEqDiff, reduceIte, Nat.reduceAdd, Nat.reduceMul, Nat.reduceLeDiff, Nat.reduceSub, Nat.reduceLT, Nat.zero_lt_succ, Int.reduceToNat, Int.reduceAdd, Int.reduceSub, Int.reduceMul, Int.reduceNeg, Int.reduceLT, Int.reduceLE, Int.reduceEq, Int.reduceBEq, Int.reduceBNe, Nat.reduceBEq, List.reduceReplicate, con15_f, con16_f, con17_f, con18_f, con19_f, g1])
            | (with_reducible exact kp_nil)
            | (with_reducible exact Kp.refl _)
            | (with_reducible exact kp_to)
            | (with_reducible refine kp_cons ?_)
            | (with_reducible refine kp_arr ?_)
            | (with_reducible refine kp_app ?_)
            | ((with_reducible refine kp_skip ?_ ?_); rfl)
            | ((with_reducible refine t_cond fun A B => ?_); simp only [go_sem, Int.cast_ofNat_Int, Nat.reduceEqDiff, reduceIte, Nat.reduceAdd, Nat.reduceMul, Nat.reduceLeDiff, Nat.reduceSub, Nat.reduceLT, Nat.zero_lt_succ, Int.reduceToNat, Int.reduceAdd, Int.reduceSub, Int.reduceMul, Int.reduceNeg, Int.reduceLT, Int.reduceLE, Int.reduceEq, Int.reduceBEq, Int.reduceBNe, Nat.reduceBEq, List.reduceReplicate, con15_f, con16_f, con17_f, con18_f, con19_f, g1]; first | (with_reducible refine A.h ?_) | (with_reducible refine B.h ?_) | refine And.intro (fun hc => A.h ?_) (fun hc => B.h ?_))
            | simp only [thenQ_n, thenQ_r, thenQ_e, blockQ_n, blockQ_r, blockQ_e, scopeQ_n, scopeQ_r, scopeQ_e, Nat.reduceEqDiff, reduceIte]
            | (with_reducible refine And.intro ?_ ?_)
            | with_reducible intro vr)
          refine end_ret rfl ?_
          simp only [fin, go_sem, Int.cast_ofNat_Int, Nat.reduceEqDiff, reduceIte, Nat.reduceAdd, Nat.reduceMul, Nat.reduceLeDiff, Nat.reduceSub, Nat.reduceLT, Nat.zero_lt_succ, Int.reduceToNat, Int.reduceAdd, Int.reduceSub, Int.reduceMul, Int.reduceNeg, Int.reduceLT, Int.reduceLE, Int.reduceEq, Int.reduceBEq, Int.reduceBNe, Nat.reduceBEq, List.reduceReplicate]
          exact LeA.refl _
  · have hf' : fewL l = false := by simpa using hf
    refine pc_of E18_ok mixed (fun _ => [0, 1, 4, 5, 6, 7, 8, 9, 10, 11, 13, 21, 51, 53, 54, 55, 65]) Try.func3 rfl (by kernel_rfl) (Nat.le_of_ble_eq_true rfl) ?_
    simp only [initF_cons, initF_nil, Nat.reduceAdd]
    refine t_name fun KF => ?_
    unfold E18
    repeat' (first
      | with_reducible refine t_seq fun K => ?_
      | with_reducible refine t_block ?_
      | with_reducible refine t_scope ?_
      | with_reducible refine t_label ?_
      | with_reducible refine t_skip ?_
      | with_reducible refine t_exit ?_
      | with_reducible refine t_ret ?_
      | with_reducible refine t_k ?_
      | (with_reducible refine t_gF ?_)
      | ((first | with_reducible refine t_kE ?_ | with_reducible refine t_kD ?_ | with_reducible refine t_gS ?_ | with_reducible refine t_kL ?_ | (with_reducible refine t_kLE ?_ ?_; rotate_left) | with_reducible refine t_region fun K => ?_ | with_reducible refine t_draw (by kernel_rfl) fun K => ?_); simp only [go_sem, Int.cast_ofNat_Int, Nat.reduceEqDiff, reduceIte, Nat.reduceAdd, Nat.reduceMul, Nat.reduceLeDiff, Nat.reduceSub, Nat.reduceLT, Nat.zero_lt_succ, Int.reduceToNat, Int.reduceAdd, Int.reduceSub, Int.reduceMul, Int.reduceNeg, Int.reduceLT, Int.reduceLE, Int.reduceEq, Int.reduceBEq, Int.reduceBNe, Nat.reduceBEq, List.reduceReplicate, con15_f, con16_f, con17_f, con18_f, con19_f, con15_c, con16_c, arrsOf_sl, hf', Bool.not_false, Bool.not_true])
      | (with_reducible exact kp_nil)
      | (with_reducible exact Kp.refl _)
      | (with_reducible exact kp_to)
      | (with_reducible refine kp_cons ?_)
      | (with_reducible refine kp_arr ?_)
      | (with_reducible refine kp_app ?_)
      | ((with_reducible refine kp_skip ?_ ?_); rfl)
      | ((with_reducible refine t_cond fun A B => ?_); simp only [go_sem, Int.cast_ofNat_Int, Nat.reduceEqDiff, reduceIte, Nat.reduceAdd, Nat.reduceMul, Nat.reduceLeDiff, Nat.reduceSub, Nat.reduceLT, Nat.zero_lt_succ, Int.reduceToNat, Int.reduceAdd, Int.reduceSub, Int.reduceMul, Int.reduceNeg, Int.reduceLT, Int.reduceLE, Int.reduceEq, Int.reduceBEq, Int.reduceBNe, Nat.reduceBEq, List.reduceReplicate, con15_f, con16_f, con17_f, con18_f, con19_f, con15_c, con16_c, arrsOf_sl, hf', Bool.not_false, Bool.not_true]; first | (with_reducible refine A.h ?_) | (with_reducible refine B.h ?_) | refine And.intro (fun hc => A.h ?_) (fun hc => B.h ?_))
      | simp only [thenQ_n, thenQ_r, thenQ_e, blockQ_n, blockQ_r, blockQ_e, scopeQ_n, scopeQ_r, scopeQ_e, Nat.reduceEqDiff, reduceIte]
      | (with_reducible refine And.intro ?_ ?_)
      | with_reducible intro vr)
    all_goals try (intros; (try simp only [Bool.and_eq_true, Bool.or_eq_true, Bool.not_eq_true', decide_eq_true_eq, decide_eq_false_iff_not, beq_iff_eq, bne_iff_ne, ne_eq, inI64, List.length_append] at *) <;> omega)
    refine end_ret rfl ?_
    simp only [fin, go_sem, Int.cast_ofNat_Int, Nat.reduceEqDiff, reduceIte, Nat.reduceAdd, Nat.reduceMul, Nat.reduceLeDiff, Nat.reduceSub, Nat.reduceLT, Nat.zero_lt_succ, Int.reduceToNat, Int.reduceAdd, Int.reduceSub, Int.reduceMul, Int.reduceNeg, Int.reduceLT, Int.reduceLE, Int.reduceEq, Int.reduceBEq, Int.reduceBNe, Nat.reduceBEq, List.reduceReplicate]
    exact LeA.refl _
theorem frame_law : ∀ xs, ShL Try.prog Try.f3.params.toList xs → PC Try.prog 3 xs (.lit (.bool true))
  | [x, y], h => by
    obtain ⟨l, rfl, hl, _⟩ := shv_arrs h.1
    obtain ⟨rs, rfl, _, hr⟩ := shv_ints u23 u3 sz3 h.2.1
    exact frame_law_pc (by simpa [maxLen] using hl) fun n hn => wf_i64 (hr n hn)
  | [], h => h.elim
  | [_], h => h.2.elim
  | _ :: _ :: _ :: _, h => h.2.2.elim
end Go.Proofs.Ytjlcbojpiieafaa
