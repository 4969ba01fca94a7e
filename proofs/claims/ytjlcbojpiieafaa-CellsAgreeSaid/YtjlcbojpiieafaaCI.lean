/- Lists of lists; axes. -/
import Derived.Test.YtjlcbojpiieafaaCF
import Derived.Test.YtjlcbojpiieafaaCG
import Derived.Test.YtjlcbojpiieafaaCH

set_option linter.all false

namespace Go.Proofs.Ytjlcbojpiieafaa
open Go Go.Fw

def ilA (l : List Int) : AV := .sl false 1 (ints .i64 l)
def ils (L : List (List Int)) : List AV := L.map ilA
theorem ils_length (L : List (List Int)) : (ils L).length = L.length := by simp [ils]
theorem ils_getD (L : List (List Int)) (i : Nat) (h : i < L.length) : (ils L).getD i .top = .sl false 1 (ints .i64 (L.getD i [])) := by simp [ils, ilA, List.getD, h]
theorem ils_app (L : List (List Int)) (l : List Int) : ils L ++ [.sl false 1 (ints .i64 l)] = ils (L ++ [l]) := by simp [ils, ilA]
def ilL : List AV → Option (List (List Int))
  | [] => some []
  | x :: xs => match slK .i64 x, ilL xs with
    | some a, some l => some (a :: l)
    | _, _ => none
theorem ilL_nil : ilL [] = some [] := rfl
theorem ilL_cons {x : AV} {xs : List AV} : ilL (x :: xs) = match slK .i64 x, ilL xs with
    | some a, some l => some (a :: l)
    | _, _ => none := rfl
theorem ilL_ils : ∀ l : List (List Int), ilL (ils l) = some l
  | [] => rfl
  | a :: l => by
    have := ilL_ils l
    unfold ils at this ⊢
    rw [List.map_cons, ilL_cons, ilA, slK_sl, this]
theorem slK_cells {x : AV} {l : List Int} (h : slK .i64 x = some l) : x.cells = [x] := by
  unfold slK slA at h
  split at h
  · rfl
  · rfl
  · cases h
theorem ilL_inv : ∀ {xs : List AV} {l : List (List Int)}, ilL xs = some l → xs.length = l.length ∧ LeL (flat xs) (flat (ils l))
  | [], l, h => by cases h; exact ⟨rfl, trivial⟩
  | x :: xs, l, h => by
    rw [ilL_cons] at h
    split at h
    · rename_i a m h1 h2
      cases h
      obtain ⟨e1, e2⟩ := ilL_inv h2
      refine ⟨by simp [e1], ?_⟩
      have : LeL (AV.cells x) (AV.cells (ilA a)) := by rw [slK_cells h1]; exact ⟨slK_le h1, trivial⟩
      exact LeL.append this e2
    · cases h
theorem ils_wid (l : List (List Int)) : ∀ y ∈ ils l, y.cells.length = 1 := by
  intro y hy
  obtain ⟨a, _, rfl⟩ := List.mem_map.1 hy
  rfl
def ilsOf (x : AV) : Option (List (List Int)) := (slA 1 x).bind ilL
theorem ilsOf_le {x : AV} {l : List (List Int)} (h : ilsOf x = some l) : LeA x (.sl false 1 (ils l)) := by
  unfold ilsOf at h
  cases hx : slA 1 x with
  | none => rw [hx] at h; cases h
  | some xs =>
    rw [hx] at h
    obtain ⟨h1, h2⟩ := ilL_inv (l := l) h
    intro C v hv
    exact LeA.sl (b := false) (by rw [ils_length]; exact h1) (ils_wid l) h2 C v (slA_le hx C v hv)
theorem ilsOf_nil : ilsOf (.lit (.slice none 0 0)) = some [] := rfl
theorem ilsOf_sl {b : Bool} {l : List (List Int)} : ilsOf (.sl b 1 (ils l)) = some l := by simp [ilsOf, slA, ilL_ils]
theorem list_ils : ∀ {ys : List AV}, (∀ y ∈ ys, ∃ a, y = ilA a) → ∃ l : List (List Int), ys = ils l
  | [], _ => ⟨[], rfl⟩
  | y :: ys, h => by
    obtain ⟨n, rfl⟩ := h y (by simp)
    obtain ⟨l, rfl⟩ := list_ils (ys := ys) fun z hz => h z (by simp [hz])
    exact ⟨n :: l, rfl⟩
theorem sh_ils {xs : List AV} (h : Sh Try.prog 40 xs) : ∃ l : List (List Int), xs = [.sl false 1 (ils l)] ∧ l.length ≤ maxLen := by
  obtain ⟨ys, rfl, hl, hy⟩ := sh_slice u40 h
  obtain ⟨l, rfl⟩ := list_ils fun y hm => by
    obtain ⟨l, rfl, _⟩ := shv_ints u23 u3 sz3 (hy y hm)
    exact ⟨l, rfl⟩
  exact ⟨l, by rw [sz23], by simpa [ils] using hl⟩

/-! ### Axes -/
def axOk (n : Int) (axes : List Int) (i : Nat) : Bool := !decide (axes.getD i 0 < 0) && (!decide (axes.getD i 0 ≥ n) && !(decide ((i : Int) > 0) && decide (axes.getD (i - 1) 0 ≥ axes.getD i 0)))
def axP (n : Int) (axes : List Int) : Prop := ∀ i, i < axes.length → axOk n axes i = true
instance (n : Int) (axes : List Int) : Decidable (axP n axes) := inferInstanceAs (Decidable (∀ i, i < axes.length → axOk n axes i = true))
def pickM (list axes : List Int) : List Int := axes.map fun a => list.getD a.toNat 0
def pickS (list axes : List Int) : Option (List Int) := if axP list.length axes then some (pickM list axes) else none
theorem axP_no {n : Int} {axes : List Int} {i : Nat} (h : i < axes.length) (hb : axOk n axes i = false) : ¬ axP n axes := fun hp => by rw [hp i h] at hb; cases hb
theorem axOk_in {n : Int} {axes : List Int} {i : Nat} (h : axOk n axes i = true) : 0 ≤ axes.getD i 0 ∧ axes.getD i 0 < n := by
  unfold axOk at h
  simp only [Bool.and_eq_true, Bool.not_eq_true', decide_eq_false_iff_not] at h
  omega
theorem pickM_take {list axes : List Int} {i : Nat} (h : i < axes.length) : pickM list (axes.take i) ++ [list.getD (axes.getD i 0).toNat 0] = pickM list (axes.take (i + 1)) := by
  rw [List.take_add_one, List.getElem?_eq_getElem h]
  unfold pickM
  rw [List.map_append]
  simp only [Option.toList_some, List.map_cons, List.map_nil, List.getD_eq_getElem?_getD, List.getElem?_eq_getElem h, Option.getD_some]
theorem pickM_len (list axes : List Int) : (pickM list axes).length = axes.length := by simp [pickM]
def optV : Option (List Int) → AV
  | some l => .tup [.sl false 1 (ints .i64 l), .lit (.bool true)]
  | none => .tup [.lit (.slice none 0 0), .lit (.bool false)]
theorem wrap64_eq (n : Int) : IntKind.i64.wrap n = (n + 9223372036854775808) % 18446744073709551616 - 9223372036854775808 := by
  unfold IntKind.wrap
  have e1 : IntKind.i64.bits = 64 := rfl
  have e2 : IntKind.i64.signed = true := rfl
  simp only [e1, e2]
  simp
  try omega
/-- The error of one array. -/
def checkS (frame axes : List Int) (r : Int) (a : Arr) : Int := match pickS frame axes with
  | none => 1
  | some own => if ofE a ≠ 0 then 1 else if r < 0 ∨ (a.d.length : Int) ≠ r + axes.length then 13 else if a.d.take axes.length ≠ own then 14 else 0
def chkG (frame : List Int) : List (List Int) → List Int → List Arr → Int
  | ax :: axs, r :: rs, a :: l => if checkS frame ax r a ≠ 0 then checkS frame ax r a else chkG frame axs rs l
  | _, _, _ => 0
def chkS (frame : List Int) (axs : List (List Int)) (rs : List Int) (l : List Arr) : Int :=
  if ((sizeS frame).2 ≠ 0 ∧ (sizeS frame).2 ≠ 3) ∨ axs.length ≠ l.length ∨ rs.length ≠ l.length then 1 else if (sizeS frame).2 ≠ 0 then 3 else chkG frame axs rs l
theorem ft42 : fieldTs Try.prog 42 = [40, 23] := by kernel_rfl
end Go.Proofs.Ytjlcbojpiieafaa

/- Axes, picks. -/
namespace Go.Proofs.Ytjlcbojpiieafaa
open Go Go.Fw

theorem all_succ {n : Int} {axes : List Int} {i : Nat} (h : ∀ j, j < i → axOk n axes j = true) (hi : axOk n axes i = true) : ∀ j, j < i + 1 → axOk n axes j = true := fun j hj => by
  rcases Nat.lt_or_ge j i with h' | h'
  · exact h j h'
  · rw [show j = i by omega]; exact hi
theorem optE_le : LeA (.tup [.lit (.slice none 0 0), .lit (.bool false)]) (optV none) := LeA.refl _
set_option maxRecDepth 20000 in
set_option maxHeartbeats 4000000 in
theorem axes_pc {axes : List Int} {n : Int} (ha : axes.length ≤ 1000000) : PC Try.prog 64 [.sl false 1 (ints .i64 axes), .lit (.int .i64 n)] (.lit (.bool (decide (axP n axes)))) := by
  refine pc_of E0_ok mixed (fun _ => [0, 1, 4, 5, 9, 40]) Try.func64 rfl (by kernel_rfl) (Nat.le_of_ble_eq_true rfl) ?_
  simp only [initF_cons, initF_nil, Nat.reduceAdd]
  refine t_name fun KF => ?_
  unfold E0
  repeat' (first
    | with_reducible refine t_seq fun K => ?_
    | with_reducible refine t_block ?_
    | with_reducible refine t_scope ?_
    | with_reducible refine t_label ?_
    | with_reducible refine t_skip ?_
    | with_reducible refine t_exit ?_
    | with_reducible refine t_ret ?_
    | with_reducible refine t_k ?_
    | (with_reducible refine t_gF ?_)
    | ((first | with_reducible refine t_kE ?_ | with_reducible refine t_kD ?_ | with_reducible refine t_gS ?_ | with_reducible refine t_kL ?_ | (with_reducible refine t_kLE ?_ ?_; rotate_left) | with_reducible refine t_region fun K => ?_ | with_reducible refine t_drawE (id := 4) (fun _ => true) [(0, true), (1, true), (2, true), (3, true), (4, true), (5, true), (6, true), (7, true), (8, true), (9, true), (10, true), (11, true), (12, true), (13, true), (14, true), (15, true), (16, true), (17, true), (18, true), (19, true), (20, true), (21, true), (22, true), (23, true), (24, true), (25, true), (26, true), (27, true), (28, true)] (by kernel_rfl) fun K => ?_ | with_reducible refine t_draw (by kernel_rfl) fun K => ?_); simp only [go_sem, Int.cast_ofNat_Int, Nat.reduceEqDiff, reduceIte, Nat.reduceAdd, Nat.reduceMul, Nat.reduceLeDiff, Nat.reduceSub, Nat.reduceLT, Nat.zero_lt_succ, Int.reduceToNat, Int.reduceAdd, Int.reduceSub, Int.reduceMul, Int.reduceNeg, Int.reduceLT, Int.reduceLE, Int.reduceEq, Int.reduceBEq, Int.reduceBNe, Nat.reduceBEq, List.reduceReplicate])
    | (with_reducible exact kp_nil)
    | (with_reducible exact Kp.refl _)
    | (with_reducible exact kp_to)
    | (with_reducible refine kp_cons ?_)
    | (with_reducible refine kp_arr ?_)
    | (with_reducible refine kp_app ?_)
    | ((with_reducible refine kp_skip ?_ ?_); rfl)
    | ((with_reducible refine t_cond fun A B => ?_); simp only [go_sem, Int.cast_ofNat_Int, Nat.reduceEqDiff, reduceIte, Nat.reduceAdd, Nat.reduceMul, Nat.reduceLeDiff, Nat.reduceSub, Nat.reduceLT, Nat.zero_lt_succ, Int.reduceToNat, Int.reduceAdd, Int.reduceSub, Int.reduceMul, Int.reduceNeg, Int.reduceLT, Int.reduceLE, Int.reduceEq, Int.reduceBEq, Int.reduceBNe, Nat.reduceBEq, List.reduceReplicate]; first | (with_reducible refine A.h ?_) | (with_reducible refine B.h ?_) | refine And.intro (fun hc => A.h ?_) (fun hc => B.h ?_))
    | simp only [thenQ_n, thenQ_r, thenQ_e, blockQ_n, blockQ_r, blockQ_e, scopeQ_n, scopeQ_r, scopeQ_e, Nat.reduceEqDiff, reduceIte]
    | (with_reducible refine And.intro ?_ ?_)
    | with_reducible intro vr)
  refine t_loop (ι := { i : Nat // i ≤ axes.length ∧ ∀ j, j < i → axOk n axes j = true }) (fun i => ⟨upd (upd (upd topF 5 (.lit (.int .i64 i.1))) 1 (.lit (.int .i64 n))) 0 (.sl false 1 (ints .i64 axes)), []⟩) (fun i => axes.length - i.1) ⟨0, by omega, by intro j hj; omega⟩ ?_ ?_
  · skip
    (refine Le.frame ?_; repeat' (first | exact leF_top _ | (with_reducible refine leF_sl ?_ ?_) | (refine leF_upd (LeR.of_eq ?_) ?_))) <;> (try (simp only [go_sem, Int.cast_ofNat_Int, Nat.reduceEqDiff, reduceIte, Nat.reduceAdd, Nat.reduceMul, Nat.reduceLeDiff, Nat.reduceSub, Nat.reduceLT, Nat.zero_lt_succ, Int.reduceToNat, Int.reduceAdd, Int.reduceSub, Int.reduceMul, Int.reduceNeg, Int.reduceLT, Int.reduceLE, Int.reduceEq, Int.reduceBEq, Int.reduceBNe, Nat.reduceBEq, List.reduceReplicate]; try rfl))
  · rintro ⟨i, hi, hF⟩ K0
    rcases Nat.lt_or_ge i axes.length with hc | hc
    · have g1 : decide ((i : Int) < (axes.length : Int)) = true := decide_eq_true (by omega)
      have g2 := ints_getD .i64 axes i hc
      have hok : axOk n axes i = (!decide (axes.getD i 0 < 0) && (!decide (axes.getD i 0 ≥ n) && !(decide ((i : Int) > 0) && decide (axes.getD (i - 1) 0 ≥ axes.getD i 0)))) := rfl
      have g4 : (ints .i64 axes).getD (i - 1) .top = .lit (.int .i64 (axes.getD (i - 1) 0)) := ints_getD .i64 axes (i - 1) (by omega)
      have hi1 : ((i : Int) - 1).toNat = i - 1 := by omega
      have hinw : ∀ (m : Nat), m ≤ 1000000 → inI64 ((m : Int) - 1) := fun m hm => by unfold inI64; omega
      by_cases c1 : axes.getD i 0 < 0
      · have c1' : decide (axes.getD i 0 < 0) = true := decide_eq_true c1
        have hno := axP_no hc (by rw [hok, c1']; rfl)
        repeat' (first
          | with_reducible refine t_seq fun K => ?_
          | with_reducible refine t_block ?_
          | with_reducible refine t_scope ?_
          | with_reducible refine t_label ?_
          | with_reducible refine t_skip ?_
          | with_reducible refine t_exit ?_
          | with_reducible refine t_ret ?_
          | with_reducible refine t_k ?_
          | (with_reducible refine t_gF ?_)
          | ((first | with_reducible refine t_kE ?_ | with_reducible refine t_kD ?_ | with_reducible refine t_gS ?_ | with_reducible refine t_kL ?_ | (with_reducible refine t_kLE ?_ ?_; rotate_left) | with_reducible refine t_region fun K => ?_ | with_reducible refine t_drawE (id := 4) (fun _ => true) [(0, true), (1, true), (2, true), (3, true), (4, true), (5, true), (6, true), (7, true), (8, true), (9, true), (10, true), (11, true), (12, true), (13, true), (14, true), (15, true), (16, true), (17, true), (18, true), (19, true), (20, true), (21, true), (22, true), (23, true), (24, true), (25, true), (26, true), (27, true), (28, true)] (by kernel_rfl) fun K => ?_ | with_reducible refine t_draw (by kernel_rfl) fun K => ?_); simp only [go_sem, Int.cast_ofNat_Int, Nat.reduceEqDiff, reduceIte, Nat.reduceAdd, Nat.reduceMul, Nat.reduceLeDiff, Nat.reduceSub, Nat.reduceLT, Nat.zero_lt_succ, Int.reduceToNat, Int.reduceAdd, Int.reduceSub, Int.reduceMul, Int.reduceNeg, Int.reduceLT, Int.reduceLE, Int.reduceEq, Int.reduceBEq, Int.reduceBNe, Nat.reduceBEq, List.reduceReplicate, g1, g2, c1', g4, hi1, Int.toNat_natCast])
          | (with_reducible exact kp_nil)
          | (with_reducible exact Kp.refl _)
          | (with_reducible exact kp_to)
          | (with_reducible refine kp_cons ?_)
          | (with_reducible refine kp_arr ?_)
          | (with_reducible refine kp_app ?_)
          | ((with_reducible refine kp_skip ?_ ?_); rfl)
          | ((with_reducible refine t_cond fun A B => ?_); simp only [go_sem, Int.cast_ofNat_Int, Nat.reduceEqDiff, reduceIte, Nat.reduceAdd, Nat.reduceMul, Nat.reduceLeDiff, Nat.reduceSub, Nat.reduceLT, Nat.zero_lt_succ, Int.reduceToNat, Int.reduceAdd, Int.reduceSub, Int.reduceMul, Int.reduceNeg, Int.reduceLT, Int.reduceLE, Int.reduceEq, Int.reduceBEq, Int.reduceBNe, Nat.reduceBEq, List.reduceReplicate, g1, g2, c1', g4, hi1, Int.toNat_natCast]; first | (with_reducible refine A.h ?_) | (with_reducible refine B.h ?_) | refine And.intro (fun hc => A.h ?_) (fun hc => B.h ?_))
          | simp only [thenQ_n, thenQ_r, thenQ_e, blockQ_n, blockQ_r, blockQ_e, scopeQ_n, scopeQ_r, scopeQ_e, Nat.reduceEqDiff, reduceIte]
          | (with_reducible refine And.intro ?_ ?_)
          | with_reducible intro vr)
        all_goals try (intros; (try simp only [Bool.and_eq_true, Bool.or_eq_true, Bool.not_eq_true', decide_eq_true_eq, decide_eq_false_iff_not, beq_iff_eq, bne_iff_ne, ne_eq, inI64, List.length_append] at *) <;> omega)
        refine end_ret rfl ?_
        simp only [fin, go_sem, Int.cast_ofNat_Int, Nat.reduceEqDiff, reduceIte, Nat.reduceAdd, Nat.reduceMul, Nat.reduceLeDiff, Nat.reduceSub, Nat.reduceLT, Nat.zero_lt_succ, Int.reduceToNat, Int.reduceAdd, Int.reduceSub, Int.reduceMul, Int.reduceNeg, Int.reduceLT, Int.reduceLE, Int.reduceEq, Int.reduceBEq, Int.reduceBNe, Nat.reduceBEq, List.reduceReplicate, decide_eq_false hno]
        exact LeA.refl _
      · have c1' : decide (axes.getD i 0 < 0) = false := decide_eq_false c1
        by_cases c2 : axes.getD i 0 ≥ n
        · have c2' : decide (axes.getD i 0 ≥ n) = true := decide_eq_true c2
          have hno := axP_no hc (by rw [hok, c2', Bool.not_true, Bool.false_and, Bool.and_false])
          repeat' (first
            | with_reducible refine t_seq fun K => ?_
            | with_reducible refine t_block ?_
            | with_reducible refine t_scope ?_
            | with_reducible refine t_label ?_
            | with_reducible refine t_skip ?_
            | with_reducible refine t_exit ?_
            | with_reducible refine t_ret ?_
            | with_reducible refine t_k ?_
            | (with_reducible refine t_gF ?_)
            | ((first | with_reducible refine t_kE ?_ | with_reducible refine t_kD ?_ | with_reducible refine t_gS ?_ | with_reducible refine t_kL ?_ | (with_reducible refine t_kLE ?_ ?_; rotate_left) | with_reducible refine t_region fun K => ?_ | with_reducible refine t_drawE (id := 4) (fun _ => true) [(0, true), (1, true), (2, true), (3, true), (4, true), (5, true), (6, true), (7, true), (8, true), (9, true), (10, true), (11, true), (12, true), (13, true), (14, true), (15, true), (16, true), (17, true), (18, true), (19, true), (20, true), (21, true), (22, true), (23, true), (24, true), (25, true), (26, true), (27, true), (28, true)] (by kernel_rfl) fun K => ?_ | with_reducible refine t_draw (by kernel_rfl) fun K => ?_); simp only [go_sem, Int.cast_ofNat_Int, Nat.reduceEqDiff, reduceIte, Nat.reduceAdd, Nat.reduceMul, Nat.reduceLeDiff, Nat.reduceSub, Nat.reduceLT, Nat.zero_lt_succ, Int.reduceToNat, Int.reduceAdd, Int.reduceSub, Int.reduceMul, Int.reduceNeg, Int.reduceLT, Int.reduceLE, Int.reduceEq, Int.reduceBEq, Int.reduceBNe, Nat.reduceBEq, List.reduceReplicate, g1, g2, c1', c2', g4, hi1, Int.toNat_natCast])
            | (with_reducible exact kp_nil)
            | (with_reducible exact Kp.refl _)
            | (with_reducible exact kp_to)
            | (with_reducible refine kp_cons ?_)
            | (with_reducible refine kp_arr ?_)
            | (with_reducible refine kp_app ?_)
            | ((with_reducible refine kp_skip ?_ ?_); rfl)
            | ((with_reducible refine t_cond fun A B => ?_); simp only [go_sem, Int.cast_ofNat_Int, Nat.reduceEqDiff, reduceIte, Nat.reduceAdd, Nat.reduceMul, Nat.reduceLeDiff, Nat.reduceSub, Nat.reduceLT, Nat.zero_lt_succ, Int.reduceToNat, Int.reduceAdd, Int.reduceSub, Int.reduceMul, Int.reduceNeg, Int.reduceLT, Int.reduceLE, Int.reduceEq, Int.reduceBEq, Int.reduceBNe, Nat.reduceBEq, List.reduceReplicate, g1, g2, c1', c2', g4, hi1, Int.toNat_natCast]; first | (with_reducible refine A.h ?_) | (with_reducible refine B.h ?_) | refine And.intro (fun hc => A.h ?_) (fun hc => B.h ?_))
            | simp only [thenQ_n, thenQ_r, thenQ_e, blockQ_n, blockQ_r, blockQ_e, scopeQ_n, scopeQ_r, scopeQ_e, Nat.reduceEqDiff, reduceIte]
            | (with_reducible refine And.intro ?_ ?_)
            | with_reducible intro vr)
          all_goals try (intros; (try simp only [Bool.and_eq_true, Bool.or_eq_true, Bool.not_eq_true', decide_eq_true_eq, decide_eq_false_iff_not, beq_iff_eq, bne_iff_ne, ne_eq, inI64, List.length_append] at *) <;> omega)
          refine end_ret rfl ?_
          simp only [fin, go_sem, Int.cast_ofNat_Int, Nat.reduceEqDiff, reduceIte, Nat.reduceAdd, Nat.reduceMul, Nat.reduceLeDiff, Nat.reduceSub, Nat.reduceLT, Nat.zero_lt_succ, Int.reduceToNat, Int.reduceAdd, Int.reduceSub, Int.reduceMul, Int.reduceNeg, Int.reduceLT, Int.reduceLE, Int.reduceEq, Int.reduceBEq, Int.reduceBNe, Nat.reduceBEq, List.reduceReplicate, decide_eq_false hno]
          exact LeA.refl _
        · have c2' : decide (axes.getD i 0 ≥ n) = false := decide_eq_false c2
          by_cases c3 : i > 0
          · have c3' : decide ((i : Int) > 0) = true := decide_eq_true (by omega)
            by_cases c4 : axes.getD (i - 1) 0 ≥ axes.getD i 0
            · have c4' : decide (axes.getD (i - 1) 0 ≥ axes.getD i 0) = true := decide_eq_true c4
              have hno := axP_no hc (by rw [hok, c1', c2', c3', c4']; rfl)
              repeat' (first
                | with_reducible refine t_seq fun K => ?_
                | with_reducible refine t_block ?_
                | with_reducible refine t_scope ?_
                | with_reducible refine t_label ?_
                | with_reducible refine t_skip ?_
                | with_reducible refine t_exit ?_
                | with_reducible refine t_ret ?_
                | with_reducible refine t_k ?_
                | (with_reducible refine t_gF ?_)
                | ((first | with_reducible refine t_kE ?_ | with_reducible refine t_kD ?_ | with_reducible refine t_gS ?_ | with_reducible refine t_kL ?_ | (with_reducible refine t_kLE ?_ ?_; rotate_left) | with_reducible refine t_region fun K => ?_ | with_reducible refine t_drawE (id := 4) (fun _ => true) [(0, true), (1, true), (2, true), (3, true), (4, true), (5, true), (6, true), (7, true), (8, true), (9, true), (10, true), (11, true), (12, true), (13, true), (14, true), (15, true), (16, true), (17, true), (18, true), (19, true), (20, true), (21, true), (22, true), (23, true), (24, true), (25, true), (26, true), (27, true), (28, true)] (by kernel_rfl) fun K => ?_ | with_reducible refine t_draw (by kernel_rfl) fun K => ?_); simp only [go_sem, Int.cast_ofNat_Int, Nat.reduceEqDiff, reduceIte, Nat.reduceAdd, Nat.reduceMul, Nat.reduceLeDiff, Nat.reduceSub, Nat.reduceLT, Nat.zero_lt_succ, Int.reduceToNat, Int.reduceAdd, Int.reduceSub, Int.reduceMul, Int.reduceNeg, Int.reduceLT, Int.reduceLE, Int.reduceEq, Int.reduceBEq, Int.reduceBNe, Nat.reduceBEq, List.reduceReplicate, g1, g2, c1', c2', c3', c4', g4, hi1, Int.toNat_natCast])
                | (with_reducible exact kp_nil)
                | (with_reducible exact Kp.refl _)
                | (with_reducible exact kp_to)
                | (with_reducible refine kp_cons ?_)
                | (with_reducible refine kp_arr ?_)
                | (with_reducible refine kp_app ?_)
                | ((with_reducible refine kp_skip ?_ ?_); rfl)
                | ((with_reducible refine t_cond fun A B => ?_); simp only [go_sem, Int.cast_ofNat_Int, Nat.reduceEqDiff, reduceIte, Nat.reduceAdd, Nat.reduceMul, Nat.reduceLeDiff, Nat.reduceSub, Nat.reduceLT, Nat.zero_lt_succ, Int.reduceToNat, Int.reduceAdd, Int.reduceSub, Int.reduceMul, Int.reduceNeg, Int.reduceLT, Int.reduceLE, Int.reduceEq, Int.reduceBEq, Int.reduceBNe, Nat.reduceBEq, List.reduceReplicate, g1, g2, c1', c2', c3', c4', g4, hi1, Int.toNat_natCast]; first | (with_reducible refine A.h ?_) | (with_reducible refine B.h ?_) | refine And.intro (fun hc => A.h ?_) (fun hc => B.h ?_))
                | simp only [thenQ_n, thenQ_r, thenQ_e, blockQ_n, blockQ_r, blockQ_e, scopeQ_n, scopeQ_r, scopeQ_e, Nat.reduceEqDiff, reduceIte]
                | (with_reducible refine And.intro ?_ ?_)
                | with_reducible intro vr)
              all_goals try (intros; (try simp only [Bool.and_eq_true, Bool.or_eq_true, Bool.not_eq_true', decide_eq_true_eq, decide_eq_false_iff_not, beq_iff_eq, bne_iff_ne, ne_eq, inI64, List.length_append] at *) <;> omega)
              refine end_ret rfl ?_
              simp only [fin, go_sem, Int.cast_ofNat_Int, Nat.reduceEqDiff, reduceIte, Nat.reduceAdd, Nat.reduceMul, Nat.reduceLeDiff, Nat.reduceSub, Nat.reduceLT, Nat.zero_lt_succ, Int.reduceToNat, Int.reduceAdd, Int.reduceSub, Int.reduceMul, Int.reduceNeg, Int.reduceLT, Int.reduceLE, Int.reduceEq, Int.reduceBEq, Int.reduceBNe, Nat.reduceBEq, List.reduceReplicate, decide_eq_false hno]
              exact LeA.refl _
            · have c4' : decide (axes.getD (i - 1) 0 ≥ axes.getD i 0) = false := decide_eq_false c4
              have hyes : axOk n axes i = true := by rw [hok, c1', c2', c3', c4']; rfl
              repeat' (first
                | with_reducible refine t_seq fun K => ?_
                | with_reducible refine t_block ?_
                | with_reducible refine t_scope ?_
                | with_reducible refine t_label ?_
                | with_reducible refine t_skip ?_
                | with_reducible refine t_exit ?_
                | with_reducible refine t_ret ?_
                | with_reducible refine t_k ?_
                | (with_reducible refine t_gF ?_)
                | ((first | with_reducible refine t_kE ?_ | with_reducible refine t_kD ?_ | with_reducible refine t_gS ?_ | with_reducible refine t_kL ?_ | (with_reducible refine t_kLE ?_ ?_; rotate_left) | with_reducible refine t_region fun K => ?_ | with_reducible refine t_drawE (id := 4) (fun _ => true) [(0, true), (1, true), (2, true), (3, true), (4, true), (5, true), (6, true), (7, true), (8, true), (9, true), (10, true), (11, true), (12, true), (13, true), (14, true), (15, true), (16, true), (17, true), (18, true), (19, true), (20, true), (21, true), (22, true), (23, true), (24, true), (25, true), (26, true), (27, true), (28, true)] (by kernel_rfl) fun K => ?_ | with_reducible refine t_draw (by kernel_rfl) fun K => ?_); simp only [go_sem, Int.cast_ofNat_Int, Nat.reduceEqDiff, reduceIte, Nat.reduceAdd, Nat.reduceMul, Nat.reduceLeDiff, Nat.reduceSub, Nat.reduceLT, Nat.zero_lt_succ, Int.reduceToNat, Int.reduceAdd, Int.reduceSub, Int.reduceMul, Int.reduceNeg, Int.reduceLT, Int.reduceLE, Int.reduceEq, Int.reduceBEq, Int.reduceBNe, Nat.reduceBEq, List.reduceReplicate, g1, g2, c1', c2', c3', c4', g4, hi1, Int.toNat_natCast])
                | (with_reducible exact kp_nil)
                | (with_reducible exact Kp.refl _)
                | (with_reducible exact kp_to)
                | (with_reducible refine kp_cons ?_)
                | (with_reducible refine kp_arr ?_)
                | (with_reducible refine kp_app ?_)
                | ((with_reducible refine kp_skip ?_ ?_); rfl)
                | ((with_reducible refine t_cond fun A B => ?_); simp only [go_sem, Int.cast_ofNat_Int, Nat.reduceEqDiff, reduceIte, Nat.reduceAdd, Nat.reduceMul, Nat.reduceLeDiff, Nat.reduceSub, Nat.reduceLT, Nat.zero_lt_succ, Int.reduceToNat, Int.reduceAdd, Int.reduceSub, Int.reduceMul, Int.reduceNeg, Int.reduceLT, Int.reduceLE, Int.reduceEq, Int.reduceBEq, Int.reduceBNe, Nat.reduceBEq, List.reduceReplicate, g1, g2, c1', c2', c3', c4', g4, hi1, Int.toNat_natCast]; first | (with_reducible refine A.h ?_) | (with_reducible refine B.h ?_) | refine And.intro (fun hc => A.h ?_) (fun hc => B.h ?_))
                | simp only [thenQ_n, thenQ_r, thenQ_e, blockQ_n, blockQ_r, blockQ_e, scopeQ_n, scopeQ_r, scopeQ_e, Nat.reduceEqDiff, reduceIte]
                | (with_reducible refine And.intro ?_ ?_)
                | with_reducible intro vr)
              all_goals try (intros; (try simp only [Bool.and_eq_true, Bool.or_eq_true, Bool.not_eq_true', decide_eq_true_eq, decide_eq_false_iff_not, beq_iff_eq, bne_iff_ne, ne_eq, inI64, List.length_append] at *) <;> omega)
              refine ⟨⟨i + 1, by omega, all_succ hF hyes⟩, by simp only; omega, ?_⟩
              (refine Le.frame ?_; repeat' (first | exact leF_top _ | (with_reducible refine leF_sl ?_ ?_) | (refine leF_upd (LeR.of_eq ?_) ?_))) <;> (try (simp only [go_sem, Int.cast_ofNat_Int, Nat.reduceEqDiff, reduceIte, Nat.reduceAdd, Nat.reduceMul, Nat.reduceLeDiff, Nat.reduceSub, Nat.reduceLT, Nat.zero_lt_succ, Int.reduceToNat, Int.reduceAdd, Int.reduceSub, Int.reduceMul, Int.reduceNeg, Int.reduceLT, Int.reduceLE, Int.reduceEq, Int.reduceBEq, Int.reduceBNe, Nat.reduceBEq, List.reduceReplicate]; try rfl))
          · have c3' : decide ((i : Int) > 0) = false := decide_eq_false (by omega)
            have hyes : axOk n axes i = true := by rw [hok, c1', c2', c3']; rfl
            repeat' (first
              | with_reducible refine t_seq fun K => ?_
              | with_reducible refine t_block ?_
              | with_reducible refine t_scope ?_
              | with_reducible refine t_label ?_
              | with_reducible refine t_skip ?_
              | with_reducible refine t_exit ?_
              | with_reducible refine t_ret ?_
              | with_reducible refine t_k ?_
              | (with_reducible refine t_gF ?_)
              | ((first | with_reducible refine t_kE ?_ | with_reducible refine t_kD ?_ | with_reducible refine t_gS ?_ | with_reducible refine t_kL ?_ | (with_reducible refine t_kLE ?_ ?_; rotate_left) | with_reducible refine t_region fun K => ?_ | with_reducible refine t_drawE (id := 4) (fun _ => true) [(0, true), (1, true), (2, true), (3, true), (4, true), (5, true), (6, true), (7, true), (8, true), (9, true), (10, true), (11, true), (12, true), (13, true), (14, true), (15, true), (16, true), (17, true), (18, true), (19, true), (20, true), (21, true), (22, true), (23, true), (24, true), (25, true), (26, true), (27, true), (28, true)] (by kernel_rfl) fun K => ?_ | with_reducible refine t_draw (by kernel_rfl) fun K => ?_); simp only [go_sem, Int.cast_ofNat_Int, Nat.reduceEqDiff, reduceIte, Nat.reduceAdd, Nat.reduceMul, Nat.reduceLeDiff, Nat.reduceSub, Nat.reduceLT, Nat.zero_lt_succ, Int.reduceToNat, Int.reduceAdd, Int.reduceSub, Int.reduceMul, Int.reduceNeg, Int.reduceLT, Int.reduceLE, Int.reduceEq, Int.reduceBEq, Int.reduceBNe, Nat.reduceBEq, List.reduceReplicate, g1, g2, c1', c2', c3', g4, hi1, Int.toNat_natCast])
              | (with_reducible exact kp_nil)
              | (with_reducible exact Kp.refl _)
              | (with_reducible exact kp_to)
              | (with_reducible refine kp_cons ?_)
              | (with_reducible refine kp_arr ?_)
              | (with_reducible refine kp_app ?_)
              | ((with_reducible refine kp_skip ?_ ?_); rfl)
              | ((with_reducible refine t_cond fun A B => ?_); simp only [go_sem, Int.cast_ofNat_Int, Nat.reduceEqDiff, reduceIte, Nat.reduceAdd, Nat.reduceMul, Nat.reduceLeDiff, Nat.reduceSub, Nat.reduceLT, Nat.zero_lt_succ, Int.reduceToNat, Int.reduceAdd, Int.reduceSub, Int.reduceMul, Int.reduceNeg, Int.reduceLT, Int.reduceLE, Int.reduceEq, Int.reduceBEq, Int.reduceBNe, Nat.reduceBEq, List.reduceReplicate, g1, g2, c1', c2', c3', g4, hi1, Int.toNat_natCast]; first | (with_reducible refine A.h ?_) | (with_reducible refine B.h ?_) | refine And.intro (fun hc => A.h ?_) (fun hc => B.h ?_))
              | simp only [thenQ_n, thenQ_r, thenQ_e, blockQ_n, blockQ_r, blockQ_e, scopeQ_n, scopeQ_r, scopeQ_e, Nat.reduceEqDiff, reduceIte]
              | (with_reducible refine And.intro ?_ ?_)
              | with_reducible intro vr)
            all_goals try (intros; (try simp only [Bool.and_eq_true, Bool.or_eq_true, Bool.not_eq_true', decide_eq_true_eq, decide_eq_false_iff_not, beq_iff_eq, bne_iff_ne, ne_eq, inI64, List.length_append] at *) <;> omega)
            refine ⟨⟨i + 1, by omega, all_succ hF hyes⟩, by simp only; omega, ?_⟩
            (refine Le.frame ?_; repeat' (first | exact leF_top _ | (with_reducible refine leF_sl ?_ ?_) | (refine leF_upd (LeR.of_eq ?_) ?_))) <;> (try (simp only [go_sem, Int.cast_ofNat_Int, Nat.reduceEqDiff, reduceIte, Nat.reduceAdd, Nat.reduceMul, Nat.reduceLeDiff, Nat.reduceSub, Nat.reduceLT, Nat.zero_lt_succ, Int.reduceToNat, Int.reduceAdd, Int.reduceSub, Int.reduceMul, Int.reduceNeg, Int.reduceLT, Int.reduceLE, Int.reduceEq, Int.reduceBEq, Int.reduceBNe, Nat.reduceBEq, List.reduceReplicate]; try rfl))
    · have g1 : decide ((i : Int) < (axes.length : Int)) = false := decide_eq_false (by omega)
      have hp : axP n axes := fun j hj => hF j (by omega)
      repeat' (first
        | with_reducible refine t_seq fun K => ?_
        | with_reducible refine t_block ?_
        | with_reducible refine t_scope ?_
        | with_reducible refine t_label ?_
        | with_reducible refine t_skip ?_
        | with_reducible refine t_exit ?_
        | with_reducible refine t_ret ?_
        | with_reducible refine t_k ?_
        | (with_reducible refine t_gF ?_)
        | ((first | with_reducible refine t_kE ?_ | with_reducible refine t_kD ?_ | with_reducible refine t_gS ?_ | with_reducible refine t_kL ?_ | (with_reducible refine t_kLE ?_ ?_; rotate_left) | with_reducible refine t_region fun K => ?_ | with_reducible refine t_drawE (id := 4) (fun _ => true) [(0, true), (1, true), (2, true), (3, true), (4, true), (5, true), (6, true), (7, true), (8, true), (9, true), (10, true), (11, true), (12, true), (13, true), (14, true), (15, true), (16, true), (17, true), (18, true), (19, true), (20, true), (21, true), (22, true), (23, true), (24, true), (25, true), (26, true), (27, true), (28, true)] (by kernel_rfl) fun K => ?_ | with_reducible refine t_draw (by kernel_rfl) fun K => ?_); simp only [go_sem, Int.cast_ofNat_Int, Nat.reduceEqDiff, reduceIte, Nat.reduceAdd, Nat.reduceMul, Nat.reduceLeDiff, Nat.reduceSub, Nat.reduceLT, Nat.zero_lt_succ, Int.reduceToNat, Int.reduceAdd, Int.reduceSub, Int.reduceMul, Int.reduceNeg, Int.reduceLT, Int.reduceLE, Int.reduceEq, Int.reduceBEq, Int.reduceBNe, Nat.reduceBEq, List.reduceReplicate, g1])
        | (with_reducible exact kp_nil)
        | (with_reducible exact Kp.refl _)
        | (with_reducible exact kp_to)
        | (with_reducible refine kp_cons ?_)
        | (with_reducible refine kp_arr ?_)
        | (with_reducible refine kp_app ?_)
        | ((with_reducible refine kp_skip ?_ ?_); rfl)
        | ((with_reducible refine t_cond fun A B => ?_); simp only [go_sem, Int.cast_ofNat_Int, Nat.reduceEqDiff, reduceIte, Nat.reduceAdd, Nat.reduceMul, Nat.reduceLeDiff, Nat.reduceSub, Nat.reduceLT, Nat.zero_lt_succ, Int.reduceToNat, Int.reduceAdd, Int.reduceSub, Int.reduceMul, Int.reduceNeg, Int.reduceLT, Int.reduceLE, Int.reduceEq, Int.reduceBEq, Int.reduceBNe, Nat.reduceBEq, List.reduceReplicate, g1]; first | (with_reducible refine A.h ?_) | (with_reducible refine B.h ?_) | refine And.intro (fun hc => A.h ?_) (fun hc => B.h ?_))
        | simp only [thenQ_n, thenQ_r, thenQ_e, blockQ_n, blockQ_r, blockQ_e, scopeQ_n, scopeQ_r, scopeQ_e, Nat.reduceEqDiff, reduceIte]
        | (with_reducible refine And.intro ?_ ?_)
        | with_reducible intro vr)
      refine end_ret rfl ?_
      simp only [fin, go_sem, Int.cast_ofNat_Int, Nat.reduceEqDiff, reduceIte, Nat.reduceAdd, Nat.reduceMul, Nat.reduceLeDiff, Nat.reduceSub, Nat.reduceLT, Nat.zero_lt_succ, Int.reduceToNat, Int.reduceAdd, Int.reduceSub, Int.reduceMul, Int.reduceNeg, Int.reduceLT, Int.reduceLE, Int.reduceEq, Int.reduceBEq, Int.reduceBNe, Nat.reduceBEq, List.reduceReplicate, decide_eq_true hp]
      exact LeA.refl _
noncomputable def con64 : PCon Try.prog where
  f := 64
  c := fun
    | [xaxes, .lit (.int .i64 n)] => match slK .i64 xaxes with | some axes => some (axes.length ≤ 1000000, .lit (.bool (decide (axP n axes)))) | _ => none
    | _ => none
  ok := by
    intro args p r hc hp
    split at hc
    · split at hc
      · rename_i haxes
        cases hc
        exact PC.weak (axes_pc hp) ⟨slK_le haxes, LeA.refl _, trivial⟩
      · cases hc
    · cases hc
  fk := fk64
theorem con64_f : con64.f = 64 := rfl
theorem con64_c {xaxes : AV} {n : Int} : con64.c [xaxes, .lit (.int .i64 n)] = match slK .i64 xaxes with | some axes => some (axes.length ≤ 1000000, .lit (.bool (decide (axP n axes)))) | _ => none := rfl
set_option maxRecDepth 20000 in
set_option maxHeartbeats 4000000 in
theorem pick_pc {list axes : List Int} (hl : list.length ≤ 1000000) (ha : axes.length ≤ 1000000) : PC Try.prog 25 [.sl false 1 (ints .i64 list), .sl false 1 (ints .i64 axes)] (optV (pickS list axes)) := by
  refine pc_of E0_ok mixed (fun _ => [0, 1, 4, 5, 6, 7, 8, 9, 10, 11, 12, 36]) Try.func25 rfl (by kernel_rfl) (Nat.le_of_ble_eq_true rfl) ?_
  simp only [initF_cons, initF_nil, Nat.reduceAdd]
  refine t_name fun KF => ?_
  unfold E0
  repeat' (first
    | with_reducible refine t_seq fun K => ?_
    | with_reducible refine t_block ?_
    | with_reducible refine t_scope ?_
    | with_reducible refine t_label ?_
    | with_reducible refine t_skip ?_
    | with_reducible refine t_exit ?_
    | with_reducible refine t_ret ?_
    | with_reducible refine t_k ?_
    | (with_reducible refine t_gF ?_)
    | ((first | with_reducible refine t_kE ?_ | with_reducible refine t_kD ?_ | with_reducible refine t_gS ?_ | with_reducible refine t_kL ?_ | (with_reducible refine t_kLE ?_ ?_; rotate_left) | with_reducible refine t_region fun K => ?_ | with_reducible refine t_draw (by kernel_rfl) fun K => ?_); simp only [go_sem, Int.cast_ofNat_Int, Nat.reduceEqDiff, reduceIte, Nat.reduceAdd, Nat.reduceMul, Nat.reduceLeDiff, Nat.reduceSub, Nat.reduceLT, Nat.zero_lt_succ, Int.reduceToNat, Int.reduceAdd, Int.reduceSub, Int.reduceMul, Int.reduceNeg, Int.reduceLT, Int.reduceLE, Int.reduceEq, Int.reduceBEq, Int.reduceBNe, Nat.reduceBEq, List.reduceReplicate])
    | (with_reducible exact kp_nil)
    | (with_reducible exact Kp.refl _)
    | (with_reducible exact kp_to)
    | (with_reducible refine kp_cons ?_)
    | (with_reducible refine kp_arr ?_)
    | (with_reducible refine kp_app ?_)
    | ((with_reducible refine kp_skip ?_ ?_); rfl)
    | ((with_reducible refine t_cond fun A B => ?_); simp only [go_sem, Int.cast_ofNat_Int, Nat.reduceEqDiff, reduceIte, Nat.reduceAdd, Nat.reduceMul, Nat.reduceLeDiff, Nat.reduceSub, Nat.reduceLT, Nat.zero_lt_succ, Int.reduceToNat, Int.reduceAdd, Int.reduceSub, Int.reduceMul, Int.reduceNeg, Int.reduceLT, Int.reduceLE, Int.reduceEq, Int.reduceBEq, Int.reduceBNe, Nat.reduceBEq, List.reduceReplicate]; first | (with_reducible refine A.h ?_) | (with_reducible refine B.h ?_) | refine And.intro (fun hc => A.h ?_) (fun hc => B.h ?_))
    | simp only [thenQ_n, thenQ_r, thenQ_e, blockQ_n, blockQ_r, blockQ_e, scopeQ_n, scopeQ_r, scopeQ_e, Nat.reduceEqDiff, reduceIte]
    | (with_reducible refine And.intro ?_ ?_)
    | with_reducible intro vr)
  refine t_loop (ι := { i : Nat // i ≤ axes.length ∧ ∀ j, j < i → axOk list.length axes j = true } × Nat) (fun i => ⟨upd (upd (upd (upd (upd (upd topF 11 (.lit (.int .i64 i.1.1))) 10 (.lit (.int .i64 axes.length))) 9 (.sl false 1 (ints .i64 axes))) 6 (.arr 0 i.2)) 1 (.sl false 1 (ints .i64 axes))) 0 (.sl false 1 (ints .i64 list)), [.arr 3 1 (ints .i64 (pickM list (axes.take i.1.1))) i.2 false]⟩) (fun i => axes.length - i.1.1) (⟨0, by omega, by intro j hj; omega⟩, 0) ?_ ?_
  · refine (le_nil 6 3 1 rfl).trans ?_
    (refine Le.frame ?_; repeat' (first | exact leF_top _ | (with_reducible refine leF_sl ?_ ?_) | (refine leF_upd (LeR.of_eq ?_) ?_))) <;> (try (simp only [go_sem, Int.cast_ofNat_Int, Nat.reduceEqDiff, reduceIte, Nat.reduceAdd, Nat.reduceMul, Nat.reduceLeDiff, Nat.reduceSub, Nat.reduceLT, Nat.zero_lt_succ, Int.reduceToNat, Int.reduceAdd, Int.reduceSub, Int.reduceMul, Int.reduceNeg, Int.reduceLT, Int.reduceLE, Int.reduceEq, Int.reduceBEq, Int.reduceBNe, Nat.reduceBEq, List.reduceReplicate]; try rfl))
  · rintro ⟨⟨i, hi, hF⟩, ver⟩ K0
    rcases Nat.lt_or_ge i axes.length with hc | hc
    · have g1 : decide ((i : Int) < (axes.length : Int)) = true := decide_eq_true (by omega)
      have g2 := ints_getD .i64 axes i hc
      have hplen := pickM_len list (axes.take i)
      rw [List.length_take] at hplen
      have hok : axOk list.length axes i = (!decide (axes.getD i 0 < 0) && (!decide (axes.getD i 0 ≥ list.length) && !(decide ((i : Int) > 0) && decide (axes.getD (i - 1) 0 ≥ axes.getD i 0)))) := rfl
      have g4 : (ints .i64 axes).getD (i - 1) .top = .lit (.int .i64 (axes.getD (i - 1) 0)) := ints_getD .i64 axes (i - 1) (by omega)
      have hi1 : ((i : Int) - 1).toNat = i - 1 := by omega
      have hinw : ∀ (m : Nat), m ≤ 1000000 → inI64 ((m : Int) - 1) := fun m hm => by unfold inI64; omega
      by_cases c1 : axes.getD i 0 < 0
      · have c1' : decide (axes.getD i 0 < 0) = true := decide_eq_true c1
        have hno := axP_no hc (by rw [hok, c1']; rfl)
        repeat' (first
          | with_reducible refine t_seq fun K => ?_
          | with_reducible refine t_block ?_
          | with_reducible refine t_scope ?_
          | with_reducible refine t_label ?_
          | with_reducible refine t_skip ?_
          | with_reducible refine t_exit ?_
          | with_reducible refine t_ret ?_
          | with_reducible refine t_k ?_
          | (with_reducible refine t_gF ?_)
          | ((first | with_reducible refine t_kE ?_ | with_reducible refine t_kD ?_ | with_reducible refine t_gS ?_ | with_reducible refine t_kL ?_ | (with_reducible refine t_kLE ?_ ?_; rotate_left) | with_reducible refine t_region fun K => ?_ | with_reducible refine t_draw (by kernel_rfl) fun K => ?_); simp only [go_sem, Int.cast_ofNat_Int, Nat.reduceEqDiff, reduceIte, Nat.reduceAdd, Nat.reduceMul, Nat.reduceLeDiff, Nat.reduceSub, Nat.reduceLT, Nat.zero_lt_succ, Int.reduceToNat, Int.reduceAdd, Int.reduceSub, Int.reduceMul, Int.reduceNeg, Int.reduceLT, Int.reduceLE, Int.reduceEq, Int.reduceBEq, Int.reduceBNe, Nat.reduceBEq, List.reduceReplicate, g1, g2, c1', g4, hi1, Int.toNat_natCast])
          | (with_reducible exact kp_nil)
          | (with_reducible exact Kp.refl _)
          | (with_reducible exact kp_to)
          | (with_reducible refine kp_cons ?_)
          | (with_reducible refine kp_arr ?_)
          | (with_reducible refine kp_app ?_)
          | ((with_reducible refine kp_skip ?_ ?_); rfl)
          | ((with_reducible refine t_cond fun A B => ?_); simp only [go_sem, Int.cast_ofNat_Int, Nat.reduceEqDiff, reduceIte, Nat.reduceAdd, Nat.reduceMul, Nat.reduceLeDiff, Nat.reduceSub, Nat.reduceLT, Nat.zero_lt_succ, Int.reduceToNat, Int.reduceAdd, Int.reduceSub, Int.reduceMul, Int.reduceNeg, Int.reduceLT, Int.reduceLE, Int.reduceEq, Int.reduceBEq, Int.reduceBNe, Nat.reduceBEq, List.reduceReplicate, g1, g2, c1', g4, hi1, Int.toNat_natCast]; first | (with_reducible refine A.h ?_) | (with_reducible refine B.h ?_) | refine And.intro (fun hc => A.h ?_) (fun hc => B.h ?_))
          | simp only [thenQ_n, thenQ_r, thenQ_e, blockQ_n, blockQ_r, blockQ_e, scopeQ_n, scopeQ_r, scopeQ_e, Nat.reduceEqDiff, reduceIte]
          | (with_reducible refine And.intro ?_ ?_)
          | with_reducible intro vr)
        all_goals try (intros; (try simp only [Bool.and_eq_true, Bool.or_eq_true, Bool.not_eq_true', decide_eq_true_eq, decide_eq_false_iff_not, beq_iff_eq, bne_iff_ne, ne_eq, inI64, List.length_append] at *) <;> omega)
        refine end_ret rfl ?_
        simp only [fin, go_sem, Int.cast_ofNat_Int, Nat.reduceEqDiff, reduceIte, Nat.reduceAdd, Nat.reduceMul, Nat.reduceLeDiff, Nat.reduceSub, Nat.reduceLT, Nat.zero_lt_succ, Int.reduceToNat, Int.reduceAdd, Int.reduceSub, Int.reduceMul, Int.reduceNeg, Int.reduceLT, Int.reduceLE, Int.reduceEq, Int.reduceBEq, Int.reduceBNe, Nat.reduceBEq, List.reduceReplicate, pickS, if_neg hno, optV]
        exact LeA.refl _
      · have c1' : decide (axes.getD i 0 < 0) = false := decide_eq_false c1
        by_cases c2 : axes.getD i 0 ≥ list.length
        · have c2' : decide (axes.getD i 0 ≥ list.length) = true := decide_eq_true c2
          have hno := axP_no hc (by rw [hok, c2', Bool.not_true, Bool.false_and, Bool.and_false])
          repeat' (first
            | with_reducible refine t_seq fun K => ?_
            | with_reducible refine t_block ?_
            | with_reducible refine t_scope ?_
            | with_reducible refine t_label ?_
            | with_reducible refine t_skip ?_
            | with_reducible refine t_exit ?_
            | with_reducible refine t_ret ?_
            | with_reducible refine t_k ?_
            | (with_reducible refine t_gF ?_)
            | ((first | with_reducible refine t_kE ?_ | with_reducible refine t_kD ?_ | with_reducible refine t_gS ?_ | with_reducible refine t_kL ?_ | (with_reducible refine t_kLE ?_ ?_; rotate_left) | with_reducible refine t_region fun K => ?_ | with_reducible refine t_draw (by kernel_rfl) fun K => ?_); simp only [go_sem, Int.cast_ofNat_Int, Nat.reduceEqDiff, reduceIte, Nat.reduceAdd, Nat.reduceMul, Nat.reduceLeDiff, Nat.reduceSub, Nat.reduceLT, Nat.zero_lt_succ, Int.reduceToNat, Int.reduceAdd, Int.reduceSub, Int.reduceMul, Int.reduceNeg, Int.reduceLT, Int.reduceLE, Int.reduceEq, Int.reduceBEq, Int.reduceBNe, Nat.reduceBEq, List.reduceReplicate, g1, g2, c1', c2', g4, hi1, Int.toNat_natCast])
            | (with_reducible exact kp_nil)
            | (with_reducible exact Kp.refl _)
            | (with_reducible exact kp_to)
            | (with_reducible refine kp_cons ?_)
            | (with_reducible refine kp_arr ?_)
            | (with_reducible refine kp_app ?_)
            | ((with_reducible refine kp_skip ?_ ?_); rfl)
            | ((with_reducible refine t_cond fun A B => ?_); simp only [go_sem, Int.cast_ofNat_Int, Nat.reduceEqDiff, reduceIte, Nat.reduceAdd, Nat.reduceMul, Nat.reduceLeDiff, Nat.reduceSub, Nat.reduceLT, Nat.zero_lt_succ, Int.reduceToNat, Int.reduceAdd, Int.reduceSub, Int.reduceMul, Int.reduceNeg, Int.reduceLT, Int.reduceLE, Int.reduceEq, Int.reduceBEq, Int.reduceBNe, Nat.reduceBEq, List.reduceReplicate, g1, g2, c1', c2', g4, hi1, Int.toNat_natCast]; first | (with_reducible refine A.h ?_) | (with_reducible refine B.h ?_) | refine And.intro (fun hc => A.h ?_) (fun hc => B.h ?_))
            | simp only [thenQ_n, thenQ_r, thenQ_e, blockQ_n, blockQ_r, blockQ_e, scopeQ_n, scopeQ_r, scopeQ_e, Nat.reduceEqDiff, reduceIte]
            | (with_reducible refine And.intro ?_ ?_)
            | with_reducible intro vr)
          all_goals try (intros; (try simp only [Bool.and_eq_true, Bool.or_eq_true, Bool.not_eq_true', decide_eq_true_eq, decide_eq_false_iff_not, beq_iff_eq, bne_iff_ne, ne_eq, inI64, List.length_append] at *) <;> omega)
          refine end_ret rfl ?_
          simp only [fin, go_sem, Int.cast_ofNat_Int, Nat.reduceEqDiff, reduceIte, Nat.reduceAdd, Nat.reduceMul, Nat.reduceLeDiff, Nat.reduceSub, Nat.reduceLT, Nat.zero_lt_succ, Int.reduceToNat, Int.reduceAdd, Int.reduceSub, Int.reduceMul, Int.reduceNeg, Int.reduceLT, Int.reduceLE, Int.reduceEq, Int.reduceBEq, Int.reduceBNe, Nat.reduceBEq, List.reduceReplicate, pickS, if_neg hno, optV]
          exact LeA.refl _
        · have c2' : decide (axes.getD i 0 ≥ list.length) = false := decide_eq_false c2
          by_cases c3 : i > 0
          · have c3' : decide ((i : Int) > 0) = true := decide_eq_true (by omega)
            by_cases c4 : axes.getD (i - 1) 0 ≥ axes.getD i 0
            · have c4' : decide (axes.getD (i - 1) 0 ≥ axes.getD i 0) = true := decide_eq_true c4
              have hno := axP_no hc (by rw [hok, c1', c2', c3', c4']; rfl)
              repeat' (first
                | with_reducible refine t_seq fun K => ?_
                | with_reducible refine t_block ?_
                | with_reducible refine t_scope ?_
                | with_reducible refine t_label ?_
                | with_reducible refine t_skip ?_
                | with_reducible refine t_exit ?_
                | with_reducible refine t_ret ?_
                | with_reducible refine t_k ?_
                | (with_reducible refine t_gF ?_)
                | ((first | with_reducible refine t_kE ?_ | with_reducible refine t_kD ?_ | with_reducible refine t_gS ?_ | with_reducible refine t_kL ?_ | (with_reducible refine t_kLE ?_ ?_; rotate_left) | with_reducible refine t_region fun K => ?_ | with_reducible refine t_draw (by kernel_rfl) fun K => ?_); simp only [go_sem, Int.cast_ofNat_Int, Nat.reduceEqDiff, reduceIte, Nat.reduceAdd, Nat.reduceMul, Nat.reduceLeDiff, Nat.reduceSub, Nat.reduceLT, Nat.zero_lt_succ, Int.reduceToNat, Int.reduceAdd, Int.reduceSub, Int.reduceMul, Int.reduceNeg, Int.reduceLT, Int.reduceLE, Int.reduceEq, Int.reduceBEq, Int.reduceBNe, Nat.reduceBEq, List.reduceReplicate, g1, g2, c1', c2', c3', c4', g4, hi1, Int.toNat_natCast])
                | (with_reducible exact kp_nil)
                | (with_reducible exact Kp.refl _)
                | (with_reducible exact kp_to)
                | (with_reducible refine kp_cons ?_)
                | (with_reducible refine kp_arr ?_)
                | (with_reducible refine kp_app ?_)
                | ((with_reducible refine kp_skip ?_ ?_); rfl)
                | ((with_reducible refine t_cond fun A B => ?_); simp only [go_sem, Int.cast_ofNat_Int, Nat.reduceEqDiff, reduceIte, Nat.reduceAdd, Nat.reduceMul, Nat.reduceLeDiff, Nat.reduceSub, Nat.reduceLT, Nat.zero_lt_succ, Int.reduceToNat, Int.reduceAdd, Int.reduceSub, Int.reduceMul, Int.reduceNeg, Int.reduceLT, Int.reduceLE, Int.reduceEq, Int.reduceBEq, Int.reduceBNe, Nat.reduceBEq, List.reduceReplicate, g1, g2, c1', c2', c3', c4', g4, hi1, Int.toNat_natCast]; first | (with_reducible refine A.h ?_) | (with_reducible refine B.h ?_) | refine And.intro (fun hc => A.h ?_) (fun hc => B.h ?_))
                | simp only [thenQ_n, thenQ_r, thenQ_e, blockQ_n, blockQ_r, blockQ_e, scopeQ_n, scopeQ_r, scopeQ_e, Nat.reduceEqDiff, reduceIte]
                | (with_reducible refine And.intro ?_ ?_)
                | with_reducible intro vr)
              all_goals try (intros; (try simp only [Bool.and_eq_true, Bool.or_eq_true, Bool.not_eq_true', decide_eq_true_eq, decide_eq_false_iff_not, beq_iff_eq, bne_iff_ne, ne_eq, inI64, List.length_append] at *) <;> omega)
              refine end_ret rfl ?_
              simp only [fin, go_sem, Int.cast_ofNat_Int, Nat.reduceEqDiff, reduceIte, Nat.reduceAdd, Nat.reduceMul, Nat.reduceLeDiff, Nat.reduceSub, Nat.reduceLT, Nat.zero_lt_succ, Int.reduceToNat, Int.reduceAdd, Int.reduceSub, Int.reduceMul, Int.reduceNeg, Int.reduceLT, Int.reduceLE, Int.reduceEq, Int.reduceBEq, Int.reduceBNe, Nat.reduceBEq, List.reduceReplicate, pickS, if_neg hno, optV]
              exact LeA.refl _
            · have c4' : decide (axes.getD (i - 1) 0 ≥ axes.getD i 0) = false := decide_eq_false c4
              have hyes : axOk list.length axes i = true := by rw [hok, c1', c2', c3', c4']; rfl
              have hin := axOk_in hyes
              have g5 := ints_getD .i64 list (axes.getD i 0).toNat (by omega)
              have g6 := pickM_take (list := list) hc
              repeat' (first
                | with_reducible refine t_seq fun K => ?_
                | with_reducible refine t_block ?_
                | with_reducible refine t_scope ?_
                | with_reducible refine t_label ?_
                | with_reducible refine t_skip ?_
                | with_reducible refine t_exit ?_
                | with_reducible refine t_ret ?_
                | with_reducible refine t_k ?_
                | (with_reducible refine t_gF ?_)
                | ((first | with_reducible refine t_kE ?_ | with_reducible refine t_kD ?_ | with_reducible refine t_gS ?_ | with_reducible refine t_kL ?_ | (with_reducible refine t_kLE ?_ ?_; rotate_left) | with_reducible refine t_region fun K => ?_ | with_reducible refine t_draw (by kernel_rfl) fun K => ?_); simp only [go_sem, Int.cast_ofNat_Int, Nat.reduceEqDiff, reduceIte, Nat.reduceAdd, Nat.reduceMul, Nat.reduceLeDiff, Nat.reduceSub, Nat.reduceLT, Nat.zero_lt_succ, Int.reduceToNat, Int.reduceAdd, Int.reduceSub, Int.reduceMul, Int.reduceNeg, Int.reduceLT, Int.reduceLE, Int.reduceEq, Int.reduceBEq, Int.reduceBNe, Nat.reduceBEq, List.reduceReplicate, g1, g2, g5, g6, c1', c2', c3', c4', g4, hi1, Int.toNat_natCast])
                | (with_reducible exact kp_nil)
                | (with_reducible exact Kp.refl _)
                | (with_reducible exact kp_to)
                | (with_reducible refine kp_cons ?_)
                | (with_reducible refine kp_arr ?_)
                | (with_reducible refine kp_app ?_)
                | ((with_reducible refine kp_skip ?_ ?_); rfl)
                | ((with_reducible refine t_cond fun A B => ?_); simp only [go_sem, Int.cast_ofNat_Int, Nat.reduceEqDiff, reduceIte, Nat.reduceAdd, Nat.reduceMul, Nat.reduceLeDiff, Nat.reduceSub, Nat.reduceLT, Nat.zero_lt_succ, Int.reduceToNat, Int.reduceAdd, Int.reduceSub, Int.reduceMul, Int.reduceNeg, Int.reduceLT, Int.reduceLE, Int.reduceEq, Int.reduceBEq, Int.reduceBNe, Nat.reduceBEq, List.reduceReplicate, g1, g2, g5, g6, c1', c2', c3', c4', g4, hi1, Int.toNat_natCast]; first | (with_reducible refine A.h ?_) | (with_reducible refine B.h ?_) | refine And.intro (fun hc => A.h ?_) (fun hc => B.h ?_))
                | simp only [thenQ_n, thenQ_r, thenQ_e, blockQ_n, blockQ_r, blockQ_e, scopeQ_n, scopeQ_r, scopeQ_e, Nat.reduceEqDiff, reduceIte]
                | (with_reducible refine And.intro ?_ ?_)
                | with_reducible intro vr)
              all_goals try (intros; (try simp only [Bool.and_eq_true, Bool.or_eq_true, Bool.not_eq_true', decide_eq_true_eq, decide_eq_false_iff_not, beq_iff_eq, bne_iff_ne, ne_eq, inI64, List.length_append] at *) <;> omega)
              refine ⟨(⟨i + 1, by omega, all_succ hF hyes⟩, ver + 1), by simp only; omega, ?_⟩
              (refine Le.frame ?_; repeat' (first | exact leF_top _ | (with_reducible refine leF_sl ?_ ?_) | (refine leF_upd (LeR.of_eq ?_) ?_))) <;> (try (simp only [go_sem, Int.cast_ofNat_Int, Nat.reduceEqDiff, reduceIte, Nat.reduceAdd, Nat.reduceMul, Nat.reduceLeDiff, Nat.reduceSub, Nat.reduceLT, Nat.zero_lt_succ, Int.reduceToNat, Int.reduceAdd, Int.reduceSub, Int.reduceMul, Int.reduceNeg, Int.reduceLT, Int.reduceLE, Int.reduceEq, Int.reduceBEq, Int.reduceBNe, Nat.reduceBEq, List.reduceReplicate]; try rfl))
          · have c3' : decide ((i : Int) > 0) = false := decide_eq_false (by omega)
            have hyes : axOk list.length axes i = true := by rw [hok, c1', c2', c3']; rfl
            have hin := axOk_in hyes
            have g5 := ints_getD .i64 list (axes.getD i 0).toNat (by omega)
            have g6 := pickM_take (list := list) hc
            repeat' (first
              | with_reducible refine t_seq fun K => ?_
              | with_reducible refine t_block ?_
              | with_reducible refine t_scope ?_
              | with_reducible refine t_label ?_
              | with_reducible refine t_skip ?_
              | with_reducible refine t_exit ?_
              | with_reducible refine t_ret ?_
              | with_reducible refine t_k ?_
              | (with_reducible refine t_gF ?_)
              | ((first | with_reducible refine t_kE ?_ | with_reducible refine t_kD ?_ | with_reducible refine t_gS ?_ | with_reducible refine t_kL ?_ | (with_reducible refine t_kLE ?_ ?_; rotate_left) | with_reducible refine t_region fun K => ?_ | with_reducible refine t_draw (by kernel_rfl) fun K => ?_); simp only [go_sem, Int.cast_ofNat_Int, Nat.reduceEqDiff, reduceIte, Nat.reduceAdd, Nat.reduceMul, Nat.reduceLeDiff, Nat.reduceSub, Nat.reduceLT, Nat.zero_lt_succ, Int.reduceToNat, Int.reduceAdd, Int.reduceSub, Int.reduceMul, Int.reduceNeg, Int.reduceLT, Int.reduceLE, Int.reduceEq, Int.reduceBEq, Int.reduceBNe, Nat.reduceBEq, List.reduceReplicate, g1, g2, g5, g6, c1', c2', c3', g4, hi1, Int.toNat_natCast])
              | (with_reducible exact kp_nil)
              | (with_reducible exact Kp.refl _)
              | (with_reducible exact kp_to)
              | (with_reducible refine kp_cons ?_)
              | (with_reducible refine kp_arr ?_)
              | (with_reducible refine kp_app ?_)
              | ((with_reducible refine kp_skip ?_ ?_); rfl)
              | ((with_reducible refine t_cond fun A B => ?_); simp only [go_sem, Int.cast_ofNat_Int, Nat.reduceEqDiff, reduceIte, Nat.reduceAdd, Nat.reduceMul, Nat.reduceLeDiff, Nat.reduceSub, Nat.reduceLT, Nat.zero_lt_succ, Int.reduceToNat, Int.reduceAdd, Int.reduceSub, Int.reduceMul, Int.reduceNeg, Int.reduceLT, Int.reduceLE, Int.reduceEq, Int.reduceBEq, Int.reduceBNe, Nat.reduceBEq, List.reduceReplicate, g1, g2, g5, g6, c1', c2', c3', g4, hi1, Int.toNat_natCast]; first | (with_reducible refine A.h ?_) | (with_reducible refine B.h ?_) | refine And.intro (fun hc => A.h ?_) (fun hc => B.h ?_))
              | simp only [thenQ_n, thenQ_r, thenQ_e, blockQ_n, blockQ_r, blockQ_e, scopeQ_n, scopeQ_r, scopeQ_e, Nat.reduceEqDiff, reduceIte]
              | (with_reducible refine And.intro ?_ ?_)
              | with_reducible intro vr)
            all_goals try (intros; (try simp only [Bool.and_eq_true, Bool.or_eq_true, Bool.not_eq_true', decide_eq_true_eq, decide_eq_false_iff_not, beq_iff_eq, bne_iff_ne, ne_eq, inI64, List.length_append] at *) <;> omega)
            refine ⟨(⟨i + 1, by omega, all_succ hF hyes⟩, ver + 1), by simp only; omega, ?_⟩
            (refine Le.frame ?_; repeat' (first | exact leF_top _ | (with_reducible refine leF_sl ?_ ?_) | (refine leF_upd (LeR.of_eq ?_) ?_))) <;> (try (simp only [go_sem, Int.cast_ofNat_Int, Nat.reduceEqDiff, reduceIte, Nat.reduceAdd, Nat.reduceMul, Nat.reduceLeDiff, Nat.reduceSub, Nat.reduceLT, Nat.zero_lt_succ, Int.reduceToNat, Int.reduceAdd, Int.reduceSub, Int.reduceMul, Int.reduceNeg, Int.reduceLT, Int.reduceLE, Int.reduceEq, Int.reduceBEq, Int.reduceBNe, Nat.reduceBEq, List.reduceReplicate]; try rfl))
    · have g1 : decide ((i : Int) < (axes.length : Int)) = false := decide_eq_false (by omega)
      have hp : axP list.length axes := fun j hj => hF j (by omega)
      have htk : axes.take i = axes := List.take_of_length_le hc
      repeat' (first
        | with_reducible refine t_seq fun K => ?_
        | with_reducible refine t_block ?_
        | with_reducible refine t_scope ?_
        | with_reducible refine t_label ?_
        | with_reducible refine t_skip ?_
        | with_reducible refine t_exit ?_
        | with_reducible refine t_ret ?_
        | with_reducible refine t_k ?_
        | (with_reducible refine t_gF ?_)
        | ((first | with_reducible refine t_kE ?_ | with_reducible refine t_kD ?_ | with_reducible refine t_gS ?_ | with_reducible refine t_kL ?_ | (with_reducible refine t_kLE ?_ ?_; rotate_left) | with_reducible refine t_region fun K => ?_ | with_reducible refine t_draw (by kernel_rfl) fun K => ?_); simp only [go_sem, Int.cast_ofNat_Int, Nat.reduceEqDiff, reduceIte, Nat.reduceAdd, Nat.reduceMul, Nat.reduceLeDiff, Nat.reduceSub, Nat.reduceLT, Nat.zero_lt_succ, Int.reduceToNat, Int.reduceAdd, Int.reduceSub, Int.reduceMul, Int.reduceNeg, Int.reduceLT, Int.reduceLE, Int.reduceEq, Int.reduceBEq, Int.reduceBNe, Nat.reduceBEq, List.reduceReplicate, g1])
        | (with_reducible exact kp_nil)
        | (with_reducible exact Kp.refl _)
        | (with_reducible exact kp_to)
        | (with_reducible refine kp_cons ?_)
        | (with_reducible refine kp_arr ?_)
        | (with_reducible refine kp_app ?_)
        | ((with_reducible refine kp_skip ?_ ?_); rfl)
        | ((with_reducible refine t_cond fun A B => ?_); simp only [go_sem, Int.cast_ofNat_Int, Nat.reduceEqDiff, reduceIte, Nat.reduceAdd, Nat.reduceMul, Nat.reduceLeDiff, Nat.reduceSub, Nat.reduceLT, Nat.zero_lt_succ, Int.reduceToNat, Int.reduceAdd, Int.reduceSub, Int.reduceMul, Int.reduceNeg, Int.reduceLT, Int.reduceLE, Int.reduceEq, Int.reduceBEq, Int.reduceBNe, Nat.reduceBEq, List.reduceReplicate, g1]; first | (with_reducible refine A.h ?_) | (with_reducible refine B.h ?_) | refine And.intro (fun hc => A.h ?_) (fun hc => B.h ?_))
        | simp only [thenQ_n, thenQ_r, thenQ_e, blockQ_n, blockQ_r, blockQ_e, scopeQ_n, scopeQ_r, scopeQ_e, Nat.reduceEqDiff, reduceIte]
        | (with_reducible refine And.intro ?_ ?_)
        | with_reducible intro vr)
      refine end_ret rfl ?_
      simp only [fin, go_sem, Int.cast_ofNat_Int, Nat.reduceEqDiff, reduceIte, Nat.reduceAdd, Nat.reduceMul, Nat.reduceLeDiff, Nat.reduceSub, Nat.reduceLT, Nat.zero_lt_succ, Int.reduceToNat, Int.reduceAdd, Int.reduceSub, Int.reduceMul, Int.reduceNeg, Int.reduceLT, Int.reduceLE, Int.reduceEq, Int.reduceBEq, Int.reduceBNe, Nat.reduceBEq, List.reduceReplicate, pickS, if_pos hp, optV, htk]
      exact LeA.refl _
noncomputable def con25 : PCon Try.prog where
  f := 25
  c := fun
    | [xlist, xaxes] => match slK .i64 xlist, slK .i64 xaxes with | some list, some axes => some (list.length ≤ 1000000 ∧ axes.length ≤ 1000000, optV (pickS list axes)) | _, _ => none
    | _ => none
  ok := by
    intro args p r hc hp
    split at hc
    · split at hc
      · rename_i hlist haxes
        cases hc
        exact PC.weak ((fun hp : _ ∧ _ => pick_pc hp.1 hp.2) hp) ⟨slK_le hlist, slK_le haxes, trivial⟩
      · cases hc
    · cases hc
  fk := fk25
theorem con25_f : con25.f = 25 := rfl
theorem con25_c {xlist : AV} {xaxes : AV} : con25.c [xlist, xaxes] = match slK .i64 xlist, slK .i64 xaxes with | some list, some axes => some (list.length ≤ 1000000 ∧ axes.length ≤ 1000000, optV (pickS list axes)) | _, _ => none := rfl
noncomputable def E23 : Env := envOf (P := Try.prog) zer (fun _ => false) (fun _ => false) [con64] []
theorem E23_ok : EnvOk Try.prog E23 := envOk zer_ok
set_option maxRecDepth 20000 in
set_option maxHeartbeats 4000000 in
theorem rpick_pc {list axes : List Int} (hl : list.length ≤ 1000000) (ha : axes.length ≤ 1000000) : PC Try.prog 26 [.sl false 1 (ints .i64 list), .sl false 1 (ints .i64 axes)] (optV (pickS list axes)) := by
  unfold pickS
  by_cases hp : axP list.length axes
  · have d0 : decide (axP list.length axes) = true := decide_eq_true hp
    rw [if_pos hp]
    refine pc_of E23_ok mixed (fun _ => [0, 1, 4, 5, 6, 7, 12, 16]) Try.func26 rfl (by kernel_rfl) (Nat.le_of_ble_eq_true rfl) ?_
    simp only [initF_cons, initF_nil, Nat.reduceAdd]
    refine t_name fun KF => ?_
    unfold E23
    repeat' (first
      | with_reducible refine t_seq fun K => ?_
      | with_reducible refine t_block ?_
      | with_reducible refine t_scope ?_
      | with_reducible refine t_label ?_
      | with_reducible refine t_skip ?_
      | with_reducible refine t_exit ?_
      | with_reducible refine t_ret ?_
      | with_reducible refine t_k ?_
      | (with_reducible refine t_gF ?_)
      | ((first | with_reducible refine t_kE ?_ | with_reducible refine t_kD ?_ | with_reducible refine t_gS ?_ | with_reducible refine t_kL ?_ | (with_reducible refine t_kLE ?_ ?_; rotate_left) | with_reducible refine t_region fun K => ?_ | with_reducible refine t_draw (by kernel_rfl) fun K => ?_); simp only [go_sem, Int.cast_ofNat_Int, Nat.reduceEqDiff, reduceIte, Nat.reduceAdd, Nat.reduceMul, Nat.reduceLeDiff, Nat.reduceSub, Nat.reduceLT, Nat.zero_lt_succ, Int.reduceToNat, Int.reduceAdd, Int.reduceSub, Int.reduceMul, Int.reduceNeg, Int.reduceLT, Int.reduceLE, Int.reduceEq, Int.reduceBEq, Int.reduceBNe, Nat.reduceBEq, List.reduceReplicate, con64_f, con64_c, slK_sl, d0, Bool.not_true])
      | (with_reducible exact kp_nil)
      | (with_reducible exact Kp.refl _)
      | (with_reducible exact kp_to)
      | (with_reducible refine kp_cons ?_)
      | (with_reducible refine kp_arr ?_)
      | (with_reducible refine kp_app ?_)
      | ((with_reducible refine kp_skip ?_ ?_); rfl)
      | ((with_reducible refine t_cond fun A B => ?_); simp only [go_sem, Int.cast_ofNat_Int, Nat.reduceEqDiff, reduceIte, Nat.reduceAdd, Nat.reduceMul, Nat.reduceLeDiff, Nat.reduceSub, Nat.reduceLT, Nat.zero_lt_succ, Int.reduceToNat, Int.reduceAdd, Int.reduceSub, Int.reduceMul, Int.reduceNeg, Int.reduceLT, Int.reduceLE, Int.reduceEq, Int.reduceBEq, Int.reduceBNe, Nat.reduceBEq, List.reduceReplicate, con64_f, con64_c, slK_sl, d0, Bool.not_true]; first | (with_reducible refine A.h ?_) | (with_reducible refine B.h ?_) | refine And.intro (fun hc => A.h ?_) (fun hc => B.h ?_))
      | simp only [thenQ_n, thenQ_r, thenQ_e, blockQ_n, blockQ_r, blockQ_e, scopeQ_n, scopeQ_r, scopeQ_e, Nat.reduceEqDiff, reduceIte]
      | (with_reducible refine And.intro ?_ ?_)
      | with_reducible intro vr)
    all_goals try (intros; (try simp only [Bool.and_eq_true, Bool.or_eq_true, Bool.not_eq_true', decide_eq_true_eq, decide_eq_false_iff_not, beq_iff_eq, bne_iff_ne, ne_eq, inI64, List.length_append] at *) <;> omega)
    refine t_loop (ι := { i : Nat // i ≤ axes.length } × Nat) (fun i => ⟨upd (upd (upd (upd topF 7 (.lit (.int .i64 i.1.1))) 6 (.arr 0 i.2)) 1 (.sl false 1 (ints .i64 axes))) 0 (.sl false 1 (ints .i64 list)), [.arr 3 1 (ints .i64 (pickM list (axes.take i.1.1))) i.2 false]⟩) (fun i => axes.length - i.1.1) (⟨0, by omega⟩, 0) ?_ ?_
    · refine (le_nil 6 3 1 rfl).trans ?_
      (refine Le.frame ?_; repeat' (first | exact leF_top _ | (with_reducible refine leF_sl ?_ ?_) | (refine leF_upd (LeR.of_eq ?_) ?_))) <;> (try (simp only [go_sem, Int.cast_ofNat_Int, Nat.reduceEqDiff, reduceIte, Nat.reduceAdd, Nat.reduceMul, Nat.reduceLeDiff, Nat.reduceSub, Nat.reduceLT, Nat.zero_lt_succ, Int.reduceToNat, Int.reduceAdd, Int.reduceSub, Int.reduceMul, Int.reduceNeg, Int.reduceLT, Int.reduceLE, Int.reduceEq, Int.reduceBEq, Int.reduceBNe, Nat.reduceBEq, List.reduceReplicate]; try rfl))
    · rintro ⟨⟨i, hi⟩, ver⟩ K0
      rcases Nat.lt_or_ge i axes.length with hc | hc
      · have g1 : decide ((i : Int) < (axes.length : Int)) = true := decide_eq_true (by omega)
        have g2 := ints_getD .i64 axes i hc
        have hplen := pickM_len list (axes.take i)
        rw [List.length_take] at hplen
        have hin := axOk_in (hp i hc)
        have g5 := ints_getD .i64 list (axes.getD i 0).toNat (by omega)
        have g6 := pickM_take (list := list) hc
        repeat' (first
          | with_reducible refine t_seq fun K => ?_
          | with_reducible refine t_block ?_
          | with_reducible refine t_scope ?_
          | with_reducible refine t_label ?_
          | with_reducible refine t_skip ?_
          | with_reducible refine t_exit ?_
          | with_reducible refine t_ret ?_
          | with_reducible refine t_k ?_
          | (with_reducible refine t_gF ?_)
          | ((first | with_reducible refine t_kE ?_ | with_reducible refine t_kD ?_ | with_reducible refine t_gS ?_ | with_reducible refine t_kL ?_ | (with_reducible refine t_kLE ?_ ?_; rotate_left) | with_reducible refine t_region fun K => ?_ | with_reducible refine t_draw (by kernel_rfl) fun K => ?_); simp only [go_sem, Int.cast_ofNat_Int, Nat.reduceEqDiff, reduceIte, Nat.reduceAdd, Nat.reduceMul, Nat.reduceLeDiff, Nat.reduceSub, Nat.reduceLT, Nat.zero_lt_succ, Int.reduceToNat, Int.reduceAdd, Int.reduceSub, Int.reduceMul, Int.reduceNeg, Int.reduceLT, Int.reduceLE, Int.reduceEq, Int.reduceBEq, Int.reduceBNe, Nat.reduceBEq, List.reduceReplicate, con64_f, g1, g2, g5, g6, Int.toNat_natCast])
          | (with_reducible exact kp_nil)
          | (with_reducible exact Kp.refl _)
          | (with_reducible exact kp_to)
          | (with_reducible refine kp_cons ?_)
          | (with_reducible refine kp_arr ?_)
          | (with_reducible refine kp_app ?_)
          | ((with_reducible refine kp_skip ?_ ?_); rfl)
          | ((with_reducible refine t_cond fun A B => ?_); simp only [go_sem, Int.cast_ofNat_Int, Nat.reduceEqDiff, reduceIte, Nat.reduceAdd, Nat.reduceMul, Nat.reduceLeDiff, Nat.reduceSub, Nat.reduceLT, Nat.zero_lt_succ, Int.reduceToNat, Int.reduceAdd, Int.reduceSub, Int.reduceMul, Int.reduceNeg, Int.reduceLT, Int.reduceLE, Int.reduceEq, Int.reduceBEq, Int.reduceBNe, Nat.reduceBEq, List.reduceReplicate, con64_f, g1, g2, g5, g6, Int.toNat_natCast]; first | (with_reducible refine A.h ?_) | (with_reducible refine B.h ?_) | refine And.intro (fun hc => A.h ?_) (fun hc => B.h ?_))
          | simp only [thenQ_n, thenQ_r, thenQ_e, blockQ_n, blockQ_r, blockQ_e, scopeQ_n, scopeQ_r, scopeQ_e, Nat.reduceEqDiff, reduceIte]
          | (with_reducible refine And.intro ?_ ?_)
          | with_reducible intro vr)
        all_goals try (intros; (try simp only [Bool.and_eq_true, Bool.or_eq_true, Bool.not_eq_true', decide_eq_true_eq, decide_eq_false_iff_not, beq_iff_eq, bne_iff_ne, ne_eq, inI64, List.length_append] at *) <;> omega)
        refine ⟨(⟨i + 1, by omega⟩, ver + 1), by simp only; omega, ?_⟩
        (refine Le.frame ?_; repeat' (first | exact leF_top _ | (with_reducible refine leF_sl ?_ ?_) | (refine leF_upd (LeR.of_eq ?_) ?_))) <;> (try (simp only [go_sem, Int.cast_ofNat_Int, Nat.reduceEqDiff, reduceIte, Nat.reduceAdd, Nat.reduceMul, Nat.reduceLeDiff, Nat.reduceSub, Nat.reduceLT, Nat.zero_lt_succ, Int.reduceToNat, Int.reduceAdd, Int.reduceSub, Int.reduceMul, Int.reduceNeg, Int.reduceLT, Int.reduceLE, Int.reduceEq, Int.reduceBEq, Int.reduceBNe, Nat.reduceBEq, List.reduceReplicate]; try rfl))
      · have g1 : decide ((i : Int) < (axes.length : Int)) = false := decide_eq_false (by omega)
        have htk : axes.take i = axes := List.take_of_length_le hc
        repeat' (first
          | with_reducible refine t_seq fun K => ?_
          | with_reducible refine t_block ?_
          | with_reducible refine t_scope ?_
          | with_reducible refine t_label ?_
          | with_reducible refine t_skip ?_
          | with_reducible refine t_exit ?_
          | with_reducible refine t_ret ?_
          | with_reducible refine t_k ?_
          | (with_reducible refine t_gF ?_)
          | ((first | with_reducible refine t_kE ?_ | with_reducible refine t_kD ?_ | with_reducible refine t_gS ?_ | with_reducible refine t_kL ?_ | (with_reducible refine t_kLE ?_ ?_; rotate_left) | with_reducible refine t_region fun K => ?_ | with_reducible refine t_draw (by kernel_rfl) fun K => ?_); simp only [go_sem, Int.cast_ofNat_Int, Nat.reduceEqDiff, reduceIte, Nat.reduceAdd, Nat.reduceMul, Nat.reduceLeDiff, Nat.reduceSub, Nat.reduceLT, Nat.zero_lt_succ, Int.reduceToNat, Int.reduceAdd, Int.reduceSub, Int.reduceMul, Int.reduceNeg, Int.reduceLT, Int.reduceLE, Int.reduceEq, Int.reduceBEq, Int.reduceBNe, Nat.reduceBEq, List.reduceReplicate, con64_f, g1])
          | (with_reducible exact kp_nil)
          | (with_reducible exact Kp.refl _)
          | (with_reducible exact kp_to)
          | (with_reducible refine kp_cons ?_)
          | (with_reducible refine kp_arr ?_)
          | (with_reducible refine kp_app ?_)
          | ((with_reducible refine kp_skip ?_ ?_); rfl)
          | ((with_reducible refine t_cond fun A B => ?_); simp only [go_sem, Int.cast_ofNat_Int, Nat.reduceEqDiff, reduceIte, Nat.reduceAdd, Nat.reduceMul, Nat.reduceLeDiff, Nat.reduceSub, Nat.reduceLT, Nat.zero_lt_succ, Int.reduceToNat, Int.reduceAdd, Int.reduceSub, Int.reduceMul, Int.reduceNeg, Int.reduceLT, Int.reduceLE, Int.reduceEq, Int.reduceBEq, Int.reduceBNe, Nat.reduceBEq, List.reduceReplicate, con64_f, g1]; first | (with_reducible refine A.h ?_) | (with_reducible refine B.h ?_) | refine And.intro (fun hc => A.h ?_) (fun hc => B.h ?_))
          | simp only [thenQ_n, thenQ_r, thenQ_e, blockQ_n, blockQ_r, blockQ_e, scopeQ_n, scopeQ_r, scopeQ_e, Nat.reduceEqDiff, reduceIte]
          | (with_reducible refine And.intro ?_ ?_)
          | with_reducible intro vr)
        refine end_ret rfl ?_
        simp only [fin, go_sem, Int.cast_ofNat_Int, Nat.reduceEqDiff, reduceIte, Nat.reduceAdd, Nat.reduceMul, Nat.reduceLeDiff, Nat.reduceSub, Nat.reduceLT, Nat.zero_lt_succ, Int.reduceToNat, Int.reduceAdd, Int.reduceSub, Int.reduceMul, Int.reduceNeg, Int.reduceLT, Int.reduceLE, Int.reduceEq, Int.reduceBEq, Int.reduceBNe, Nat.reduceBEq, List.reduceReplicate, optV, htk]
        exact LeA.refl _
  · have d0 : decide (axP list.length axes) = false := decide_eq_false hp
    rw [if_neg hp]
    refine pc_of E23_ok mixed (fun _ => [0, 1, 4, 5, 6, 7, 12, 16]) Try.func26 rfl (by kernel_rfl) (Nat.le_of_ble_eq_true rfl) ?_
    simp only [initF_cons, initF_nil, Nat.reduceAdd]
    refine t_name fun KF => ?_
    unfold E23
    repeat' (first
      | with_reducible refine t_seq fun K => ?_
      | with_reducible refine t_block ?_
      | with_reducible refine t_scope ?_
      | with_reducible refine t_label ?_
      | with_reducible refine t_skip ?_
      | with_reducible refine t_exit ?_
      | with_reducible refine t_ret ?_
      | with_reducible refine t_k ?_
      | (with_reducible refine t_gF ?_)
      | ((first | with_reducible refine t_kE ?_ | with_reducible refine t_kD ?_ | with_reducible refine t_gS ?_ | with_reducible refine t_kL ?_ | (with_reducible refine t_kLE ?_ ?_; rotate_left) | with_reducible refine t_region fun K => ?_ | with_reducible refine t_draw (by kernel_rfl) fun K => ?_); simp only [go_sem, Int.cast_ofNat_Int, Nat.reduceEqDiff, reduceIte, Nat.reduceAdd, Nat.reduceMul, Nat.reduceLeDiff, Nat.reduceSub, Nat.reduceLT, Nat.zero_lt_succ, Int.reduceToNat, Int.reduceAdd, Int.reduceSub, Int.reduceMul, Int.reduceNeg, Int.reduceLT, Int.reduceLE, Int.reduceEq, Int.reduceBEq, Int.reduceBNe, Nat.reduceBEq, List.reduceReplicate, con64_f, con64_c, slK_sl, d0, Bool.not_false])
      | (with_reducible exact kp_nil)
      | (with_reducible exact Kp.refl _)
      | (with_reducible exact kp_to)
      | (with_reducible refine kp_cons ?_)
      | (with_reducible refine kp_arr ?_)
      | (with_reducible refine kp_app ?_)
      | ((with_reducible refine kp_skip ?_ ?_); rfl)
      | ((with_reducible refine t_cond fun A B => ?_); simp only [go_sem, Int.cast_ofNat_Int, Nat.reduceEqDiff, reduceIte, Nat.reduceAdd, Nat.reduceMul, Nat.reduceLeDiff, Nat.reduceSub, Nat.reduceLT, Nat.zero_lt_succ, Int.reduceToNat, Int.reduceAdd, Int.reduceSub, Int.reduceMul, Int.reduceNeg, Int.reduceLT, Int.reduceLE, Int.reduceEq, Int.reduceBEq, Int.reduceBNe, Nat.reduceBEq, List.reduceReplicate, con64_f, con64_c, slK_sl, d0, Bool.not_false]; first | (with_reducible refine A.h ?_) | (with_reducible refine B.h ?_) | refine And.intro (fun hc => A.h ?_) (fun hc => B.h ?_))
      | simp only [thenQ_n, thenQ_r, thenQ_e, blockQ_n, blockQ_r, blockQ_e, scopeQ_n, scopeQ_r, scopeQ_e, Nat.reduceEqDiff, reduceIte]
      | (with_reducible refine And.intro ?_ ?_)
      | with_reducible intro vr)
    all_goals try (intros; (try simp only [Bool.and_eq_true, Bool.or_eq_true, Bool.not_eq_true', decide_eq_true_eq, decide_eq_false_iff_not, beq_iff_eq, bne_iff_ne, ne_eq, inI64, List.length_append] at *) <;> omega)
    refine end_ret rfl ?_
    simp only [fin, go_sem, Int.cast_ofNat_Int, Nat.reduceEqDiff, reduceIte, Nat.reduceAdd, Nat.reduceMul, Nat.reduceLeDiff, Nat.reduceSub, Nat.reduceLT, Nat.zero_lt_succ, Int.reduceToNat, Int.reduceAdd, Int.reduceSub, Int.reduceMul, Int.reduceNeg, Int.reduceLT, Int.reduceLE, Int.reduceEq, Int.reduceBEq, Int.reduceBNe, Nat.reduceBEq, List.reduceReplicate, optV]
    exact LeA.refl _
noncomputable def con26 : PCon Try.prog where
  f := 26
  c := fun
    | [xlist, xaxes] => match slK .i64 xlist, slK .i64 xaxes with | some list, some axes => some (list.length ≤ 1000000 ∧ axes.length ≤ 1000000, optV (pickS list axes)) | _, _ => none
    | _ => none
  ok := by
    intro args p r hc hp
    split at hc
    · split at hc
      · rename_i hlist haxes
        cases hc
        exact PC.weak ((fun hp : _ ∧ _ => rpick_pc hp.1 hp.2) hp) ⟨slK_le hlist, slK_le haxes, trivial⟩
      · cases hc
    · cases hc
  fk := fk26
theorem con26_f : con26.f = 26 := rfl
theorem con26_c {xlist : AV} {xaxes : AV} : con26.c [xlist, xaxes] = match slK .i64 xlist, slK .i64 xaxes with | some list, some axes => some (list.length ≤ 1000000 ∧ axes.length ≤ 1000000, optV (pickS list axes)) | _, _ => none := rfl
end Go.Proofs.Ytjlcbojpiieafaa
