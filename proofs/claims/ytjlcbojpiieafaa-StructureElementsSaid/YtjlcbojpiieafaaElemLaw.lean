/- The law on elements. -/
import Derived.Test.YtjlcbojpiieafaaSC

set_option linter.all false

namespace Go.Proofs.Ytjlcbojpiieafaa
open Go Go.Fw
set_option maxRecDepth 20000

attribute [go_sem] isIntV
theorem ilsOf_x {b : Bool} {xs : List AV} : ilsOf (.sl b 1 xs) = ilL xs := by simp [ilsOf, slA]
theorem listB_vL2 {l : List Int} (h : listB l = true) : vL l ∧ l.length ≤ 40 := by
  unfold listB at h
  simp only [Bool.and_eq_true, Bool.not_eq_true', decide_eq_false_iff_not, beq_iff_eq] at h
  exact ⟨vL_of h.2, by omega⟩
noncomputable def X1 : Env := envJ (P := Try.prog) jk2 zer (fun _ => false) (fun _ => false) [con38, con40, con44, con45, con46, con47, con48] []
theorem X1_ok : EnvOk Try.prog X1 := envJOk zer_ok
theorem outI_in {a : List Int} {q : Int} : (decide (q ≥ 0) && decide (q < (a.length : Int))) = !outI a q := by
  unfold outI
  by_cases h1 : q < 0 <;> by_cases h2 : q ≥ (a.length : Int) <;> simp [h1, h2] <;> omega
set_option maxHeartbeats 16000000 in
theorem elem_core {a : List Int} {p q n v1 : Int} {P0 Q0 E0 : Bool} {U AA SQ SP SN V1 V2 IW FI : Arr} (hi : inI64 p ∧ inI64 q ∧ inI64 n) (hw : IntKind.i64.wrap p = p ∧ IntKind.i64.wrap q = q ∧ IntKind.i64.wrap n = n)
    (hg : [a].all listB = true) (hl : a.length ≤ 40) (hp : (decide (p ≥ 0) && decide (p < (a.length : Int))) = P0) (hq : (decide (q ≥ 0) && decide (q < (a.length : Int))) = Q0) (he : (p == q) = E0) (hc0 : E0 = true → P0 = Q0)
    (hA : listA a = AA) (hSQ : scalA q = SQ) (hSP : scalA p = SP) (hSN : scalA n = SN) (hV1 : scalA v1 = V1)
    (e1 : applyS ⟨#[105, 110, 100, 101, 120]⟩ [] 0 [AA, SQ] = (V1, !Q0, 0)) (e2 : applyS ⟨#[117, 112, 100, 97, 116, 101]⟩ [] 0 [AA, SP, SN] = (U, !P0, 0)) (e3 : applyS ⟨#[105, 110, 100, 101, 120]⟩ [] 0 [U, SQ] = (V2, !Q0, 0))
    (hul : (U.x.length : Int) = a.length) (w1 : Q0 = true → a.getD q.toNat 0 = v1) (w0 : Q0 = false → scalA 0 = V1) (wn : (P0 && E0) = true → V2 = SN) (wo : (P0 && E0) = false → V2 = V1) (hU : P0 = false → U = AA)
    (s1 : sameA V1 V1 = true) (s2 : sameA V2 V2 = true) (s3 : sameA AA AA = true) (s4 : sameA SQ SQ = true) (s5 : sameA SN SN = true)
    (i1 : doA ⟨#[105, 111, 116, 97]⟩ (a.length : Int) [] = IW) (i2 : Q0 = true → doA ⟨#[105, 110, 100, 101, 120]⟩ 0 [IW, SQ] = SQ) (i3 : doA ⟨#[102, 105, 108, 108]⟩ (a.length : Int) [SN] = FI) (i4 : Q0 = true → doA ⟨#[105, 110, 100, 101, 120]⟩ 0 [FI, SQ] = SN)
    (oA : okA AA) (oSQ : okA SQ) (oSP : okA SP) (oSN : okA SN) (oU : okA U) (oV1 : okA V1) (oV2 : okA V2) (oIO : okA IW) (oFI : okA FI) :
    PC Try.prog 12 [.sl false 1 (ints .i64 a), .agg [.lit (.int .i32 p), .lit (.int .i32 q)], .lit (.int .i32 n)] (.lit (.bool true)) := by
  have l1 := okc AA [SQ] oA (okc SQ [] oSQ okn)
  have l2 := okc AA [SP, SN] oA (okc SP [SN] oSP (okc SN [] oSN okn))
  have l3 := okc U [SQ] oU (okc SQ [] oSQ okn)
  have l4 := okc IW [SQ] oIO (okc SQ [] oSQ okn)
  have l5 := okc SN [] oSN okn
  have l6 := okc FI [SQ] oFI (okc SQ [] oSQ okn)
  have hAl : (AA.x.length : Int) = a.length := by rw [← hA]; rfl
  obtain ⟨hi1, hi2, hi3⟩ := hi
  obtain ⟨hw1, hw2, hw3⟩ := hw
  cases P0 <;> cases Q0 <;> cases E0 <;> first | (exact absurd (hc0 rfl) (by decide)) | skip
  all_goals
    simp only [Bool.not_true, Bool.not_false, Bool.and_true, Bool.and_false, Bool.true_and, Bool.false_and, true_implies, false_implies, reduceCtorEq, Bool.false_eq_true] at e1 e2 e3 w1 w0 wn wo hU i2 i4
    refine pc_ofR X1_ok mixed (kp12) (rs := [.tmp 6]) Try.func12 rfl (by kernel_rfl) (by kernel_rfl) (Nat.le_of_ble_eq_true rfl) ?_
    simp only [initF_cons, initF_nil, Nat.reduceAdd]
    refine t_name fun KF => ?_
    unfold X1
    repeat' (first
     | (with_reducible first | refine t_seq fun K => ?_ | refine t_block ?_ | refine t_scope ?_ | refine t_label ?_ | refine t_skip ?_ | refine t_exit ?_ | refine t_ret ?_ | refine t_k ?_ | refine t_gF ?_ | exact kp_nil | exact Kp.refl _ | exact kp_to | refine kp_cons ?_ | refine kp_arr ?_ | refine kp_app ?_ | refine t_p ?_ | refine t_br (fun hc => ?_) fun hc => ?_)
     | ((with_reducible first | refine t_kE (t_openE ?_) | refine t_kD (t_openD ?_) | refine t_kE ?_ | refine t_kD ?_ | refine t_gS ?_ | refine t_kL ?_ | refine t_kLF ?_ ?_ | refine t_region fun K => ?_ | refine t_cond fun A B => ?_ | refine t_drawE (id := 5) (fun i => i == 0) [(0, true), (2, true), (3, true), (4, true), (5, true), (6, true), (7, true), (1, true), (8, false), (9, false), (10, true), (11, true)] (by kernel_rfl) fun K => ?_ | refine t_drawE (id := 7) (fun i => i == 0 || i == 1) [(0, true), (1, true), (2, true), (3, true), (4, true), (5, true), (6, true), (7, true), (8, true), (9, false), (10, false), (11, true), (12, true)] (by kernel_rfl) fun K => ?_ | refine t_drawE (id := 8) (fun i => i == 0 || i == 1) [(0, true), (1, true), (2, true), (3, true), (4, true), (5, true), (6, true), (7, true), (8, true), (9, true), (10, true), (11, true), (12, false), (13, false), (14, true), (15, true)] (by kernel_rfl) fun K => ?_ | refine t_drawE (id := 9) (fun i => i == 0 || i == 1 || i == 3) [(0, true), (1, true), (2, true), (3, true), (4, true), (5, true), (6, true), (7, true), (8, true), (9, false), (10, false), (11, true), (12, true)] (by kernel_rfl) fun K => ?_ | refine t_draw (by kernel_rfl) fun K => ?_); (try (first | refine t_hideE fun KL => ?_ | refine t_hideD fun KL => ?_)); simp only [go_sem, geff, kp12, con38_f, con40_f, con44_f, con45_f, con46_f, con47_f, con48_f, con38_c, con40_c, con44_c, con45_c, con46_c, con47_c, con48_c, ilsOf_x, ilL_cons, ilL_nil, hg, slK_sl, slK_cons, slK_emp, slK_nil, arrsOf_x, arrsOf_nil, arrL_cons, arrL_nil, arrOf_agg, arrV_def', arr_eta, appV_def, hw1, hw2, hw3, hA, hSQ, hSP, hSN, hV1, hp, hq, he, e1, e2, e3, hul, hAl, w1, w0, wn, wo, hU, s1, s3, s4, s5, i1, i2, i3, i4, Option.map_some, beq_self_eq_true, bne_self_eq_false])
     | ((with_reducible refine kp_skip ?_ ?_); rfl) | simp only [thenQ, blockQ, scopeQ, Nat.reduceEqDiff, reduceIte] | (with_reducible first | refine And.intro ?_ ?_ | intro vr))
    all_goals try (first | exact okn _ (by assumption) | exact l1 _ (by assumption) | exact l2 _ (by assumption) | exact l3 _ (by assumption) | exact l4 _ (by assumption) | exact l5 _ (by assumption) | exact l6 _ (by assumption) | exact oA | exact oV1 | exact oV2 | exact oSQ | exact oSN | exact oU | decide)
    all_goals try (first | (with_reducible assumption) | (intros; (try simp only [Bool.and_eq_true, Bool.or_eq_true, Bool.or_eq_false_iff, Bool.not_eq_true', Bool.not_eq_false', decide_eq_true_eq, decide_eq_false_iff_not, beq_iff_eq, beq_eq_false_iff_ne, bne_iff_ne, bne_eq_false_iff_eq, ne_eq, inI64, List.length_append] at *) <;> omega))
    all_goals ((first | refine end_retE ?_ | refine end_normE ?_); simp only [fin, go_sem])
    exact LeA.refl _
theorem wrap_el {n : Int} (h : el32 n) : inI64 n ∧ IntKind.i64.wrap n = n := by
  have hi : inI64 n := by unfold inI64; have := h.1; have := h.2; omega
  exact ⟨hi, wrap_i64 hi⟩
theorem elem_law_pc {a : List Int} {p q n : Int} (hp : el32 p) (hq : el32 q) (hn : el32 n) : PC Try.prog 12 [.sl false 1 (ints .i64 a), .agg [.lit (.int .i32 p), .lit (.int .i32 q)], .lit (.int .i32 n)] (.lit (.bool true)) := by
  cases hg : [a].all listB with
  | false =>
    refine pc_ofR X1_ok mixed (kp12) (rs := [.tmp 6]) Try.func12 rfl (by kernel_rfl) (by kernel_rfl) (Nat.le_of_ble_eq_true rfl) ?_
    simp only [initF_cons, initF_nil, Nat.reduceAdd]
    refine t_name fun KF => ?_
    unfold X1
    repeat' (first
     | (with_reducible first | refine t_seq fun K => ?_ | refine t_block ?_ | refine t_scope ?_ | refine t_label ?_ | refine t_skip ?_ | refine t_exit ?_ | refine t_ret ?_ | refine t_k ?_ | refine t_gF ?_ | exact kp_nil | exact Kp.refl _ | exact kp_to | refine kp_cons ?_ | refine kp_arr ?_ | refine kp_app ?_ | refine t_p ?_ | refine t_br (fun hc => ?_) fun hc => ?_)
     | ((with_reducible first | refine t_kE (t_openE ?_) | refine t_kD (t_openD ?_) | refine t_kE ?_ | refine t_kD ?_ | refine t_gS ?_ | refine t_kL ?_ | refine t_kLF ?_ ?_ | refine t_region fun K => ?_ | refine t_cond fun A B => ?_ | refine t_drawE (id := 5) (fun i => i == 0) [(0, true), (2, true), (3, true), (4, true), (5, true), (6, true), (7, true), (1, true), (8, false), (9, false), (10, true), (11, true)] (by kernel_rfl) fun K => ?_ | refine t_drawE (id := 7) (fun i => i == 0 || i == 1) [(0, true), (1, true), (2, true), (3, true), (4, true), (5, true), (6, true), (7, true), (8, true), (9, false), (10, false), (11, true), (12, true)] (by kernel_rfl) fun K => ?_ | refine t_drawE (id := 8) (fun i => i == 0 || i == 1) [(0, true), (1, true), (2, true), (3, true), (4, true), (5, true), (6, true), (7, true), (8, true), (9, true), (10, true), (11, true), (12, false), (13, false), (14, true), (15, true)] (by kernel_rfl) fun K => ?_ | refine t_drawE (id := 9) (fun i => i == 0 || i == 1 || i == 3) [(0, true), (1, true), (2, true), (3, true), (4, true), (5, true), (6, true), (7, true), (8, true), (9, false), (10, false), (11, true), (12, true)] (by kernel_rfl) fun K => ?_ | refine t_draw (by kernel_rfl) fun K => ?_); (try (first | refine t_hideE fun KL => ?_ | refine t_hideD fun KL => ?_)); simp only [go_sem, geff, kp12, con38_f, con40_f, con44_f, con45_f, con46_f, con47_f, con48_f, con38_c, con44_c, ilsOf_x, ilL_cons, ilL_nil, slK_sl, hg])
     | ((with_reducible refine kp_skip ?_ ?_); rfl) | simp only [thenQ, blockQ, scopeQ, Nat.reduceEqDiff, reduceIte] | (with_reducible first | refine And.intro ?_ ?_ | intro vr))
    all_goals try (first | (with_reducible assumption) | (intros; (try simp only [Bool.and_eq_true, Bool.or_eq_true, Bool.or_eq_false_iff, Bool.not_eq_true', Bool.not_eq_false', decide_eq_true_eq, decide_eq_false_iff_not, beq_iff_eq, beq_eq_false_iff_ne, bne_iff_ne, bne_eq_false_iff_eq, ne_eq, inI64, List.length_append] at *) <;> omega))
    all_goals ((first | refine end_retE ?_ | refine end_normE ?_); simp only [fin, go_sem])
    exact LeA.refl _
  | true =>
    have hg2 := hg
    rw [List.all_cons, List.all_nil, Bool.and_true] at hg2
    obtain ⟨ha, ha40⟩ := listB_vL2 hg2
    have vU := ha.up hn p
    have hr := vL_range (n := a.length) ha.len
    have hf := vL_rep (n := a.length) ha.len hn
    have e0 : ∀ q, outI (upI a p n) q = outI a q := fun q => by unfold outI; rw [upI_len]
    have hin : outI a q = false → 0 ≤ q ∧ q < a.length := fun h => by
      unfold outI at h
      rw [Bool.or_eq_false_iff, decide_eq_false_iff_not, decide_eq_false_iff_not] at h
      omega
    have elA := el_of ha
    have elv : el32 (atI a q) := by unfold atI; split; exact ⟨by decide, by decide⟩; exact elA _
    have elw : el32 (atI (upI a p n) q) := by unfold atI; split; exact ⟨by decide, by decide⟩; exact el_of vU _
    refine elem_core (P0 := !outI a p) (Q0 := !outI a q) (E0 := p == q) (v1 := atI a q) (U := listA (upI a p n)) (V2 := scalA (atI (upI a p n) q)) (IW := listA (rangeS a.length)) (FI := listA (List.replicate a.length n))
      ⟨(wrap_el hp).1, (wrap_el hq).1, (wrap_el hn).1⟩ ⟨(wrap_el hp).2, (wrap_el hq).2, (wrap_el hn).2⟩ hg ha40 outI_in outI_in rfl (fun h => by rw [beq_iff_eq.1 h]) rfl rfl rfl rfl rfl ?_ ?_ ?_ ?_ ?_ ?_ ?_ ?_ ?_
      (same_scal elv) (same_scal elw) (by unfold sameA; rw [ha.ofE, eqA_refl]; rfl) (same_scal hq) (same_scal hn) (do_iota ha.len) ?_ (do_fill ha.len hn) ?_
      (okl a (by have := ha.len; omega)) (oks q) (oks p) (oks n) (okl _ (by have := vU.len; omega)) (oks _) (oks _) (okl _ (by have := hr.len; omega)) (okl _ (by have := hf.len; omega))
    · rw [Bool.not_not]; exact app_index ha hq
    · rw [Bool.not_not]; exact app_update ha hp hn
    · rw [Bool.not_not, ← e0]; exact app_index vU hq
    · show ((upI a p n).length : Int) = _; rw [upI_len]
    · intro h
      unfold atI
      rw [if_neg (by simpa using h)]
    · intro h
      unfold atI
      rw [if_pos (by simpa using h)]
    · intro h
      rw [Bool.and_eq_true, beq_iff_eq] at h
      obtain ⟨h1, rfl⟩ := h
      have h1 : outI a p = false := by simpa using h1
      have h2 := hin h1
      congr 1
      unfold atI
      rw [e0, if_neg (by rw [h1]; simp)]
      unfold upI
      rw [if_neg (by rw [h1]; simp), List.getD_eq_getElem?_getD, List.getElem?_set_self (by omega)]
      rfl
    · intro h
      congr 1
      unfold atI
      rw [e0]
      by_cases ho : outI a q = true
      · rw [if_pos ho, if_pos ho]
      · have h2 := hin (by simpa using ho)
        rw [if_neg ho, if_neg ho]
        unfold upI
        by_cases hop : outI a p = true
        · rw [if_pos hop]
        · rw [if_neg hop]
          have hpq : ¬ p = q := by
            intro e
            subst e
            have : outI a p = false := by simpa using ho
            rw [this] at h
            simp at h
          have h3 : 0 ≤ p := by
            unfold outI at hop
            simp only [Bool.or_eq_true, decide_eq_true_eq] at hop
            omega
          rw [List.getD_eq_getElem?_getD, List.getD_eq_getElem?_getD, List.getElem?_set_ne (by omega)]
    · intro h
      unfold upI
      rw [if_pos (by simpa using h)]
    · intro h
      refine (do_index hr hq).trans ?_
      rw [atI_range]
      unfold outI at h ⊢
      rw [rangeS_len]
      simpa using h
    · intro h
      refine (do_index hf hq).trans ?_
      rw [atI_rep]
      unfold outI at h ⊢
      rw [List.length_replicate]
      simpa using h
theorem ft71 : Try.prog.underlying 71 = some (.array 2 21) := by kernel_rfl
theorem elem_law : ∀ xs, ShL Try.prog Try.f12.params.toList xs → PC Try.prog 12 xs (.lit (.bool true))
  | [x, y, z], h => by
    obtain ⟨a, rfl, _⟩ := shv_ints u23 u3 sz3 h.1
    obtain ⟨c, rfl, hc⟩ := shv_agg ag71 h.2.1
    obtain ⟨xss, rfl, hl, hx⟩ := sh_array ft71 hc
    obtain ⟨n, rfl, hn⟩ := shv_int u21 h.2.2.1
    match xss, hl with
    | [s, t], _ =>
      obtain ⟨p, rfl, hp⟩ := sh_int u21 (hx s (by simp))
      obtain ⟨q, rfl, hq⟩ := sh_int u21 (hx t (by simp))
      have hp := wf_i32 hp
      have hq := wf_i32 hq
      have hn := wf_i32 hn
      exact elem_law_pc ⟨hp.1, by omega⟩ ⟨hq.1, by omega⟩ ⟨hn.1, by omega⟩
  | [], h => h.elim
  | [_], h => h.2.elim
  | [_, _], h => h.2.2.elim
  | _ :: _ :: _ :: _ :: _, h => h.2.2.2.elim
end Go.Proofs.Ytjlcbojpiieafaa
