/- Elements that are read, typed; nil and frozen arrays; loops from where they stand. -/
import Derived.Test.YtjlcbojpiieafaaDoorFwB

set_option linter.all false

namespace Go.Fw
open Go
variable {P : Program}
theorem ints_getJ (k : IntKind) (l : List Int) (i : Nat) : (ints k l).getD i (.lit (.int k 0)) = .lit (.int k (l.getD i 0)) := by
  simp only [ints, List.getD_eq_getElem?_getD, List.getElem?_map]; cases l[i]? <;> rfl
theorem strs_getJ (l : List ByteArray) (i : Nat) : (strs l).getD i (.lit (.string ByteArray.empty)) = .lit (.string (l.getD i ByteArray.empty)) := by
  simp only [strs, List.getD_eq_getElem?_getD, List.getElem?_map]; cases l[i]? <;> rfl
attribute [go_sem] ints_getJ strs_getJ ints_set

/-- A result that may be nil, as an own array without elements. -/
theorem EC.nilArr {f : FuncId} {args : List AV} {σ : List AObj} {k : AV → List AObj → Prop} (e sz : Nat)
    (h : EC P f args σ fun x σ' => k x σ' ∨ (x = .lit (.slice none 0 0) ∧ k (.arr σ'.length 0) (σ' ++ [.arr e sz [] 0 false]))) : EC P f args σ k := by
  intro cx G w vs hr hl
  refine (h cx G w vs hr hl).mono ?_
  rintro en w' ⟨v, G', σ', x, rfl, hle, hr', hx, hk | ⟨rfl, hk⟩⟩
  · exact ⟨v, G', σ', x, rfl, hle, hr', hx, hk⟩
  · obtain ⟨G2, h1, h2, h3⟩ := Rel.newEmpty hr' e sz none
    rw [hx.lit_inv]
    exact ⟨_, G2, _, _, rfl, hle.trans h1, h2, h3, hk⟩
theorem le_nil {n0 : Nat} {f : Nat → AV} {σ : List AObj} (i e sz : Nat) (h : f i = .lit (.slice none 0 0)) : Le n0 ⟨f, σ⟩ ⟨upd f i (.arr σ.length 0), σ ++ [.arr e sz [] 0 false]⟩ := by
  intro cx G w N a _ hr hf
  obtain ⟨G', h1, h2, h3⟩ := Rel.newEmpty hr e sz none
  refine ⟨G', h2, hf.size, hf.defers, fun j => ?_⟩
  have hj : R G' (f j) (a.tmps.getD j undef) := (hf.rel j).mono h1
  simp only [upd]
  split
  · rename_i e; subst e; rw [h] at hj; rw [hj.lit_inv]; exact h3
  · exact hj
theorem le_freeze {n0 : Nat} {f : Nat → AV} {σ : List AObj} (i : Nat) {o e sz ver : Nat} {xs : List AV} (h : f i = .arr o ver) (ho : σ[o]? = some (.arr e sz xs ver false)) : Le n0 ⟨f, σ⟩ ⟨upd f i (.sl false sz xs), σ.set o (.arr e sz xs ver true)⟩ := by
  intro cx G w N a _ hr hf
  obtain ⟨G', h1, h2⟩ := Rel.freezeO hr o
  have e1 : Fw.freezeO σ o = σ.set o (.arr e sz xs ver true) := by unfold Fw.freezeO; rw [ho]
  rw [e1] at h2
  refine ⟨G', h2, hf.size, hf.defers, fun j => ?_⟩
  have hj : R G' (f j) (a.tmps.getD j undef) := (hf.rel j).mono h1
  simp only [upd]
  split
  · rename_i e2; subst e2; rw [h] at hj
    have hc : Fw.arrOf false (σ.set o (.arr e sz xs ver true)) o ver = some (.sl false sz xs) := by unfold Fw.arrOf; rw [get_set ho]; simp
    have := arrOf_sound (live := false) h2 hj hc
    exact .clo _ _ (by simpa using this)
  · exact hj

/-! ### Loops from where they stand: only what turns is named -/
def delF (f : Nat → AV) (i : Nat) : Nat → AV := fun j => if j = i then .top else f j
theorem delF_top (i : Nat) : delF topF i = topF := by funext j; simp [delF, topF]
theorem delF_upd (f : Nat → AV) (i j : Nat) (x : AV) : delF (upd f j x) i = if j = i then delF f i else upd (delF f i) j x := by
  funext k
  split
  · rename_i e; subst e; simp only [delF, upd]; split <;> rfl
  · rename_i e
    simp only [delF, upd]
    split
    · rename_i e2; subst e2; rw [if_neg (fun h => e h.symm)]
    · rfl
def updL (f : Nat → AV) : List (Nat × AV) → Nat → AV
  | [] => f
  | p :: l => upd (delF (updL f l) p.1) p.1 p.2
theorem or_na (a b : Bool) : (a || (!a && b)) = (a || b) := by cases a <;> rfl
variable {E : Env} {keep : Nat → List Nat} {n0 : Nat}
theorem t_loopF {c : Code} {Q : Exit → AS → Prop} {f : Nat → AV} {σ : List AObj} {ι : Type} (S : ι → List (Nat × AV)) (g : ι → List AObj) (m : ι → Nat) (i0 : ι) (h0 : Le n0 ⟨f, σ⟩ ⟨updL f (S i0), g i0⟩)
    (h : ∀ i, ∀ K : KT (fun s' => ∃ j, m j < m i ∧ Le n0 s' ⟨updL f (S j), g j⟩), awp P E keep n0 c (thenQ K.k Q) ⟨updL f (S i), g i⟩) : awp P E keep n0 (.loop c) Q ⟨f, σ⟩ :=
  ⟨ι, fun i => ⟨updL f (S i), g i⟩, m, i0, h0, fun i => h i ⟨_, fun _ h => h⟩⟩
theorem updL_nil {f : Nat → AV} : updL f [] = f := rfl
theorem updL_cons {f : Nat → AV} {i : Nat} {x : AV} {l : List (Nat × AV)} : updL f ((i, x) :: l) = upd (delF (updL f l) i) i x := rfl
attribute [go_sem] delF_top delF_upd updL_nil updL_cons or_na
theorem leF_updl {f g : Nat → AV} {i : Nat} {x : AV} (h : LeR x (g i)) (hg : ∀ j, j ≠ i → LeR (f j) (g j)) : ∀ j, LeR (upd f i x j) (g j) := by
  intro j
  simp only [upd]
  split
  · rename_i e; subst e; exact h
  · rename_i e; exact hg j e

/-! ### Ends, with results that are reckoned -/
def endP (o : Option AV) (k : AV → List AObj → Prop) (σ : List AObj) : Prop := match o with
  | some x => k x σ
  | none => False
theorem endP_some {x : AV} {k : AV → List AObj → Prop} {σ : List AObj} : endP (some x) k σ = k x σ := rfl
theorem end_retE {rs : List ResultVar} {k : AV → List AObj → Prop} {K : QT (endQ P rs k)} {s : AS} (h : endP (resV P s rs) k s.σ) : K.k .ret s := by
  unfold endP at h
  split at h
  · rename_i x hx; exact end_ret hx h
  · exact h.elim
theorem end_normE {rs : List ResultVar} {k : AV → List AObj → Prop} {K : QT (endQ P rs k)} {s : AS} (h : endP (resV P s rs) k s.σ) : K.k .normal s := by
  unfold endP at h
  split at h
  · rename_i x hx; exact end_norm hx h
  · exact h.elim
theorem ec_ofR (hE : EnvOk P E) (hm : P.follows .mixedOrders = true) {f : FuncId} {fn : Func} {c : Code} (keep : Nat → List Nat) {rs : List ResultVar} (hfn : P.funcs[f]? = some fn) (hb : fn.body = some c) (hrs : fn.results.toList = rs) (hd : dstOk fn.ntmps c = true)
    {args : List AV} {σ : List AObj} {k : AV → List AObj → Prop} (hargs : args.length ≤ fn.ntmps)
    (h : awp P E keep σ.length c (endQ P rs k) ⟨initF 0 args, σ⟩) : EC P f args σ k := by
  subst hrs
  exact ec_of hE hm keep hfn hb hd hargs h
theorem pc_ofR (hE : EnvOk P E) (hm : P.follows .mixedOrders = true) {f : FuncId} {fn : Func} {c : Code} (keep : Nat → List Nat) {rs : List ResultVar} (hfn : P.funcs[f]? = some fn) (hb : fn.body = some c) (hrs : fn.results.toList = rs) (hd : dstOk fn.ntmps c = true)
    {args : List AV} {r : AV} (hargs : args.length ≤ fn.ntmps)
    (h : awp P E keep 0 c (endQ P rs fun x σ => fin x σ r) ⟨initF 0 args, []⟩) : PC P f args r := by
  subst hrs
  exact pc_of hE hm keep hfn hb hd hargs h
def resK : VR → Option AV
  | some (_, x) => some x
  | none => none
theorem resK_yes {x : AV} : resK (yes x) = some x := rfl
theorem resK_need {p : Prop} {x : AV} : resK (need p x) = some x := rfl
def resB (P : Program) (t : TypeId) (off : Nat) : Option AObj → Option AV
  | some (.box _ cs) => resK (partV P t cs off)
  | _ => none
def resA (P : Program) (t : TypeId) (σ : List AObj) : AV → Option AV
  | .ref o off => resB P t off σ[o]?
  | _ => none
theorem resOne_tmp {s : AS} {t : Tmp} : resOne P s (.tmp t) = some (s.f t) := rfl
theorem resOne_cell {s : AS} {a : Tmp} {t : TypeId} : resOne P s (.cell a t) = resA P t s.σ (s.f a) := by
  unfold resOne
  simp only
  cases h : s.f a with
  | ref o off =>
    simp only [resA]
    cases h2 : s.σ[o]? with
    | none => rfl
    | some ob => cases ob <;> first | rfl | (simp only [resB, resK]; cases partV P t _ off <;> rfl)
  | _ => rfl
attribute [go_sem] endP_some resV resL resOne_tmp resOne_cell resA resB resK_yes resK_need
end Go.Fw
