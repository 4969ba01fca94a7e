/- Regions in any order where one operation (a 'new') may come at any time beside others that turn objects: both ways are walked. -/
import Derived.Test.YtohiagaclfaolaaGreatDoorFwB

set_option linter.all false

namespace Go.Fw
open Go
set_option linter.unusedSectionVars false
variable [TB]
variable {P : Program} {E : Env} {keep : Nat → List Nat} {n0 : Nat}

/-- The operations in an order that is chosen, while the operation 'a' may come at any time: before each one that turns objects the way parts. -/
def lopsF (P : Program) (E : Env) (D : Nat → Bool) (ds : List (Option Tmp)) (a : Oper) : List (Oper × Nat) → List (Oper × Nat) → AS → (AS → Prop) → Prop
  | [], _, _, _ => False
  | (o, b) :: l, m, s, K => match b, m with
    | 0, _ :: m' => (astep P E ds o s fun x σ' => Kp D s.σ σ' ∧ lopsF P E D ds a l m' ⟨putF s.f o.dst x, σ'⟩ K) ∧ (astep P E ds a s fun x σ' => Kp D s.σ σ' ∧ lops P E D ds m ⟨putF s.f a.dst x, σ'⟩ K)
    | 1, _ :: m' => stabG E D ds s.f o = true ∧ match sval P E ds s.f s.σ o with
      | some (p, x) => p ∧ lopsF P E D ds a l m' ⟨putF s.f o.dst x, s.σ⟩ K
      | none => False
    | 2, _ :: m' => match sval P E ds s.f s.σ o with
      | some (p, x) => p ∧ lopsF P E D ds a l m' ⟨putF s.f o.dst x, s.σ⟩ K
      | none => False
    | 3, _ => astep P E ds o s fun x σ' => Kp D s.σ σ' ∧ lops P E D ds l ⟨putF s.f o.dst x, σ'⟩ K
    | _, _ => False
/-- The chosen order's operations, once they are found. -/
def lopsFO (P : Program) (E : Env) (D : Nat → Bool) (ds : List (Option Tmp)) (a : Option Oper) (l m : Option (List (Oper × Nat))) (s : AS) (K : AS → Prop) : Prop := match a, l, m with
  | some a, some l, some m => lopsF P E D ds a l m s K
  | _, _, _ => False
def noA (a : Nat) (ord : List (Nat × Nat)) : List (Nat × Nat) := ord.filter fun p => !(p.1 == a)
def kF (P : Program) (E : Env) (D : Nat → Bool) (ds : List (Option Tmp)) (a : Oper) (l m : List (Oper × Nat)) (K : AS → Prop) (d : Option Tmp) (f : Nat → AV) : AV → List AObj → Prop := fun x σ' => lopsF P E D ds a l m ⟨putF f d x, σ'⟩ K
def kFE (P : Program) (E : Env) (D : Nat → Bool) (ds : List (Option Tmp)) (a : Oper) (l m : List (Oper × Nat)) (K : AS → Prop) (d : Option Tmp) (f : Nat → AV) (σ : List AObj) : AV → List AObj → Prop := fun x σ' => Kp D σ σ' ∧ lopsF P E D ds a l m ⟨putF f d x, σ'⟩ K
theorem fo_some {D : Nat → Bool} {ds : List (Option Tmp)} {a : Oper} {l m : List (Oper × Nat)} {s : AS} {K : AS → Prop} : lopsFO P E D ds (some a) (some l) (some m) s K = lopsF P E D ds a l m s K := rfl
theorem lF_pre {D : Nat → Bool} {ds : List (Option Tmp)} {a o : Oper} {p : Oper × Nat} {l m : List (Oper × Nat)} {f : Nat → AV} {σ : List AObj} {K : AS → Prop} : lopsF P E D ds a ((o, 2) :: l) (p :: m) ⟨f, σ⟩ K = vk (sval P E ds f σ o) (kF P E D ds a l m K o.dst f) σ := rfl
theorem lF_true {D : Nat → Bool} {ds : List (Option Tmp)} {a o : Oper} {p : Oper × Nat} {l m : List (Oper × Nat)} {f : Nat → AV} {σ : List AObj} {K : AS → Prop} : lopsF P E D ds a ((o, 1) :: l) (p :: m) ⟨f, σ⟩ K = (stabG E D ds f o = true ∧ vk (sval P E ds f σ o) (kF P E D ds a l m K o.dst f) σ) := rfl
theorem lF_at {D : Nat → Bool} {ds : List (Option Tmp)} {a o : Oper} {l m : List (Oper × Nat)} {s : AS} {K : AS → Prop} : lopsF P E D ds a ((o, 3) :: l) m s K = lops P E D ds ((o, 0) :: l) s K := by cases m <;> rfl
theorem lF_eff {D : Nat → Bool} {ds : List (Option Tmp)} {a : Oper} {p : Oper × Nat} {d : Option Tmp} {op : Op} {ty : TypeId} {pos : String} {af : Array Edge} {l m : List (Oper × Nat)} {f : Nat → AV} {σ : List AObj} {K : AS → Prop} :
    lopsF P E D ds a ((⟨d, op, ty, pos, af, none⟩, 0) :: l) (p :: m) ⟨f, σ⟩ K = (avop P E (aev f) σ ⟨d, op, ty, pos, af, none⟩ (kFE P E D ds a l m K d f σ) ∧ lops P E D ds ((a, 0) :: p :: m) ⟨f, σ⟩ K) := rfl
theorem t_kF {D : Nat → Bool} {ds : List (Option Tmp)} {a : Oper} {l m : List (Oper × Nat)} {K : AS → Prop} {d : Option Tmp} {f : Nat → AV} {x : AV} {σ : List AObj} (h : lopsF P E D ds a l m ⟨putF f d x, σ⟩ K) : kF P E D ds a l m K d f x σ := h
instance {D : Nat → Bool} {ds : List (Option Tmp)} {a : Oper} {l m : List (Oper × Nat)} {K : AS → Prop} {d : Option Tmp} {f : Nat → AV} {x : AV} {σ : List AObj} : Ny (kF P E D ds a l m K d f x σ) (lopsF P E D ds a l m ⟨putF f d x, σ⟩ K) := ⟨t_kF⟩
attribute [go_sem] fo_some lF_at noA List.filter_cons List.filter_nil
end Go.Fw

/- Regions in a chosen order: what is still to be walked gets a name. -/
namespace Go.Fw
open Go
set_option linter.unusedSectionVars false
variable [TB]
variable {P : Program} {E : Env}
structure HP (l : List (Oper × Nat)) where
  v : List (Oper × Nat)
  h : v = l
structure HP2 (l m : List (Oper × Nat)) where
  v : List (Oper × Nat)
  w : List (Oper × Nat)
  h : v = l
  g : w = m
/-- A step that goes one way and asks one thing beside. -/
class Nk (G : Prop) (H C : outParam Prop) : Prop where
  go : H → C → G
section
variable {D : Nat → Bool} {ds : List (Option Tmp)} {K : AS → Prop} {d : Option Tmp} {f : Nat → AV} {x : AV} {σ σ' : List AObj} {a : Oper} {p q : Oper × Nat} {l m : List (Oper × Nat)} {s : AS}
instance : Nh (lops P E D ds (p :: l) s K) (∀ L : HP l, lops P E D ds (p :: L.v) s K) := ⟨fun h => h ⟨l, rfl⟩⟩
instance : Nh (lopsF P E D ds a (p :: l) (q :: m) s K) (∀ L : HP2 l m, lopsF P E D ds a (p :: L.v) (q :: L.w) s K) := ⟨fun h => h ⟨l, m, rfl, rfl⟩⟩
instance (priority := high) {L : HP l} : Ny (kL P E D ds L.v K d f x σ) (lops P E D ds l ⟨putF f d x, σ⟩ K) := ⟨fun h => by unfold kL; rw [L.h]; exact h⟩
instance (priority := high) {L : HP2 l m} : Ny (kL P E D ds L.w K d f x σ) (lops P E D ds m ⟨putF f d x, σ⟩ K) := ⟨fun h => by unfold kL; rw [L.g]; exact h⟩
instance (priority := high) {L : HP2 l m} : Ny (kF P E D ds a L.v L.w K d f x σ) (lopsF P E D ds a l m ⟨putF f d x, σ⟩ K) := ⟨fun h => by unfold kF; rw [L.h, L.g]; exact h⟩
instance : Nk (kLE P E D ds l K d f σ x σ') (lops P E D ds l ⟨putF f d x, σ'⟩ K) (Kp D σ σ') := ⟨fun h c => ⟨c, h⟩⟩
instance (priority := high) {L : HP l} : Nk (kLE P E D ds L.v K d f σ x σ') (lops P E D ds l ⟨putF f d x, σ'⟩ K) (Kp D σ σ') := ⟨fun h c => ⟨c, by rw [L.h]; exact h⟩⟩
instance (priority := high) {L : HP2 l m} : Nk (kLE P E D ds L.w K d f σ x σ') (lops P E D ds m ⟨putF f d x, σ'⟩ K) (Kp D σ σ') := ⟨fun h c => ⟨c, by rw [L.g]; exact h⟩⟩
instance (priority := high) {L : HP2 l m} : Nk (kLE P E D ds L.v K d f σ x σ') (lops P E D ds l ⟨putF f d x, σ'⟩ K) (Kp D σ σ') := ⟨fun h c => ⟨c, by rw [L.h]; exact h⟩⟩
instance (priority := high) {L : HP2 l m} : Nk (kLE P E D ds (p :: L.w) K d f σ x σ') (lops P E D ds (p :: m) ⟨putF f d x, σ'⟩ K) (Kp D σ σ') := ⟨fun h c => ⟨c, by rw [L.g]; exact h⟩⟩
instance : Nk (kFE P E D ds a l m K d f σ x σ') (lopsF P E D ds a l m ⟨putF f d x, σ'⟩ K) (Kp D σ σ') := ⟨fun h c => ⟨c, h⟩⟩
instance (priority := high) {L : HP2 l m} : Nk (kFE P E D ds a L.v L.w K d f σ x σ') (lopsF P E D ds a l m ⟨putF f d x, σ'⟩ K) (Kp D σ σ') := ⟨fun h c => ⟨c, by rw [L.h, L.g]; exact h⟩⟩
end
end Go.Fw
namespace Go.Fw
open Go
set_option linter.unusedSectionVars false
variable [TB]
variable {P : Program} {E : Env} {keep : Nat → List Nat} {n0 : Nat}
/-- The order 'ord' with the floating operation 'a' in its place, under 3: each step is looked at once. -/
def ordG (md : Region.Mode) (ops : Array Oper) (a : Nat) : List (Nat × Nat) → Array Bool → Bool
  | [], _ => false
  | (i, b) :: l, listed => match b with
    | 0 => !(i == a) && ((Region.ready md ops listed == [i, a] || Region.ready md ops listed == [a, i]) && ordG md ops a l (listed.setIfInBounds i true))
    | 1 => !(i == a) && ((Region.ready md ops listed).contains i && (Region.free md ops listed i && ordG md ops a l (listed.setIfInBounds i true)))
    | 2 => !(i == a) && ((Region.ready md ops listed).contains i && (preI md ops listed i && ordG md ops a l (listed.setIfInBounds i true)))
    | 3 => (i == a) && (Region.ready md ops listed == [i] && ordB md ops l (listed.setIfInBounds i true))
    | _ => false
theorem noA_ne {a i b : Nat} {l : List (Nat × Nat)} (h : (!(i == a)) = true) : noA a ((i, b) :: l) = (i, b) :: noA a l := by
  unfold noA; rw [List.filter_cons]; simp only [h]; rfl
theorem ordB_tl {md : Region.Mode} {ops : Array Oper} {i b : Nat} {l : List (Nat × Nat)} {listed : Array Bool} (h : ordB md ops ((i, b) :: l) listed = true) : ordB md ops l (listed.setIfInBounds i true) = true := by
  unfold ordB at h; rw [Bool.and_eq_true] at h; exact h.2
theorem sAny_ordG {D : Nat → Bool} {md : Region.Mode} {ops : Array Oper} {Q : AS → Prop} {a : Nat} {oa : Oper} (ha : ops[a]? = some oa) : ∀ (ord : List (Nat × Nat)) (l lm : List (Oper × Nat)) (listed : Array Bool) (s : AS),
    ordG md ops a ord listed = true → ordB md ops (noA a ord) (listed.setIfInBounds a true) = true → pickO ops ord = some l → pickO ops (noA a ord) = some lm → (noA a ord).length + 1 = ord.length → lopsF P E D (dsOf ops) oa l lm s Q → sAny P E D md ops Q ord.length listed s
  | [], l, lm, listed, s, hB, _, _, _, _, _ => by cases hB
  | (i, b) :: ord, l, lm, listed, s, hB, hM, hp, hpm, hlen, h => by
    simp only [pickO] at hp
    split at hp
    rotate_left
    · cases hp
    rename_i o l' ho hl'
    cases hp
    match b, hB, h with
    | n + 4, hB, h => cases hB
    | 3, hB, h =>
      simp only [ordG, Bool.and_eq_true, beq_iff_eq] at hB
      obtain ⟨rfl, hr, hB'⟩ := hB
      have h' : astep P E (dsOf ops) o s fun x σ' => Kp D s.σ σ' ∧ lops P E D (dsOf ops) l' ⟨putF s.f o.dst x, σ'⟩ Q := by cases lm <;> exact h
      refine ⟨fun e => (by rw [e] at hr; cases hr), fun j hj => ?_⟩
      rw [hr] at hj
      obtain rfl : j = i := by simpa using hj
      unfold sOp
      rw [ho]
      exact ⟨_, h', fun x σ' hk => ⟨hk.1, sAny_ord ord l' _ _ hB' hl' hk.2⟩⟩
    | 0, hB, h =>
      simp only [ordG] at hB
      rw [Bool.and_eq_true, Bool.and_eq_true, Bool.or_eq_true, beq_iff_eq, beq_iff_eq] at hB
      obtain ⟨hne, hr, hB1⟩ := hB
      rw [noA_ne hne] at hM hpm hlen
      have hpm0 := hpm
      simp only [pickO, ho] at hpm
      split at hpm
      rotate_left
      · cases hpm
      rename_i o2 lm' ho2 hlm'
      cases ho2
      cases hpm
      have hM' := ordB_tl hM
      have hia : i ≠ a := by simpa using hne
      rw [Array.setIfInBounds_comm _ _ (Ne.symm hia)] at hM'
      have hlen' : (noA a ord).length + 1 = ord.length := by simpa using hlen
      have h' : (astep P E (dsOf ops) o s fun x σ' => Kp D s.σ σ' ∧ lopsF P E D (dsOf ops) oa l' lm' ⟨putF s.f o.dst x, σ'⟩ Q) ∧ (astep P E (dsOf ops) oa s fun x σ' => Kp D s.σ σ' ∧ lops P E D (dsOf ops) ((o, 0) :: lm') ⟨putF s.f oa.dst x, σ'⟩ Q) := h
      have hne' : Region.ready md ops listed ≠ [] := by rcases hr with e | e <;> (rw [e]; simp)
      refine ⟨fun e => absurd e hne', fun j hj => ?_⟩
      have hj' : j = i ∨ j = a := by
        rcases hr with e | e <;> (rw [e] at hj; simp at hj; omega)
      rcases hj' with rfl | rfl
      · unfold sOp
        rw [ho]
        exact ⟨_, h'.1, fun x σ' hk => ⟨hk.1, sAny_ordG ha ord l' lm' _ _ hB1 hM' hl' hlm' hlen' hk.2⟩⟩
      · unfold sOp
        rw [ha]
        refine ⟨_, h'.2, fun x σ' hk => ⟨hk.1, ?_⟩⟩
        have := sAny_ord _ _ _ _ hM hpm0 hk.2
        rw [List.length_cons, hlen'] at this
        exact this
    | 1, hB, h =>
      simp only [ordG] at hB
      rw [Bool.and_eq_true, Bool.and_eq_true, Bool.and_eq_true] at hB
      obtain ⟨hne, hr, hf, hB'⟩ := hB
      rw [noA_ne hne] at hM hpm hlen
      simp only [pickO, ho] at hpm
      split at hpm
      rotate_left
      · cases hpm
      rename_i o2 lm' ho2 hlm'
      cases ho2
      cases hpm
      have hM' := ordB_tl hM
      have hia : i ≠ a := by simpa using hne
      rw [Array.setIfInBounds_comm _ _ (Ne.symm hia)] at hM'
      have hlen' : (noA a ord).length + 1 = ord.length := by simpa using hlen
      have hr' : i ∈ Region.ready md ops listed := by simpa using hr
      have h' : stabG E D (dsOf ops) s.f o = true ∧ match sval P E (dsOf ops) s.f s.σ o with
        | some (p, x) => p ∧ lopsF P E D (dsOf ops) oa l' lm' ⟨putF s.f o.dst x, s.σ⟩ Q
        | none => False := h
      obtain ⟨hs, h'⟩ := h'
      split at h'
      · rename_i p x hv
        exact sAny_first ho h'.1 ord.length listed s (Region.free_spec ho hf) hr' hs hv (sAny_ordG ha ord l' lm' _ _ hB' hM' hl' hlm' hlen' h'.2)
      · exact h'.elim
    | 2, hB, h =>
      simp only [ordG] at hB
      rw [Bool.and_eq_true, Bool.and_eq_true, Bool.and_eq_true] at hB
      obtain ⟨hne, hr, hf, hB'⟩ := hB
      rw [noA_ne hne] at hM hpm hlen
      simp only [pickO, ho] at hpm
      split at hpm
      rotate_left
      · cases hpm
      rename_i o2 lm' ho2 hlm'
      cases ho2
      cases hpm
      have hM' := ordB_tl hM
      have hia : i ≠ a := by simpa using hne
      rw [Array.setIfInBounds_comm _ _ (Ne.symm hia)] at hM'
      have hlen' : (noA a ord).length + 1 = ord.length := by simpa using hlen
      have hr' : i ∈ Region.ready md ops listed := by simpa using hr
      have h' : match sval P E (dsOf ops) s.f s.σ o with
        | some (p, x) => p ∧ lopsF P E D (dsOf ops) oa l' lm' ⟨putF s.f o.dst x, s.σ⟩ Q
        | none => False := h
      simp only [preI, ho, Bool.and_eq_true] at hf
      obtain ⟨⟨⟨h1, h2⟩, h3⟩, h4⟩ := hf
      split at h'
      · rename_i p x hv
        exact sAny_pre (B := clos md ops i) ho h'.1 h1 (fun j oj hoj hb hji => by
            rcases ((preB_spec h4 hoj).1 hb).2 with e | e
            · exact absurd e hji
            · exact e) h3 ord.length listed s (Region.free_spec ho h2) (fun j oj hoj => ⟨fun hb => ((preB_spec h4 hoj).1 hb).1, (preB_spec h4 hoj).2⟩) hr' hv (sAny_ordG ha ord l' lm' _ _ hB' hM' hl' hlm' hlen' h'.2)
      · exact h'.elim
theorem t_drawG {id : Nat} {ops : List Oper} {Q : Exit → AS → Prop} {s : AS} (D : Nat → Bool) (a : Nat) (ord : List (Nat × Nat))
    (hB : (ord.length == ops.toArray.size && (noA a ord).length + 1 == ord.length) = true) (hG : ordG .any ops.toArray a ord (Array.replicate ops.toArray.size false) = true) (hM : ordB .any ops.toArray (noA a ord) ((Array.replicate ops.toArray.size false).setIfInBounds a true) = true)
    (h : ∀ K : KT (Q .normal), lopsFO P E D (dsOf ops.toArray) ops.toArray[a]? (pickO ops.toArray ord) (pickO ops.toArray (noA a ord)) s (keepK K.k (keep id))) : awp P E keep n0 (.region id ops.toArray true) Q s := by
  have := h ⟨fun s' => ∃ s'', Le n0 s' s'' ∧ Q .normal s'', fun s h => ⟨s, fun _ G _ _ _ _ h1 h2 => ⟨G, h1, h2⟩, h⟩⟩
  unfold keepK lopsFO at this
  split at this
  · rename_i oa l m ha hl hm
    simp only [Bool.and_eq_true, beq_iff_eq] at hB
    have h2 := sAny_ordG (D := D) (E := E) (P := P) (md := .any) ha ord l m (Array.replicate ops.toArray.size false) s hG hM hl hm hB.2 this
    rw [hB.1] at h2
    exact .inr ⟨D, h2⟩
  · exact this.elim
end Go.Fw
namespace Go.Fw
open Go
set_option linter.unusedSectionVars false
variable [TB]
variable {P : Program} {E : Env}
/-- The rules of Fw33 once more, as equations that are not known by unfolding. -/
theorem lG_pre {D : Nat → Bool} {ds : List (Option Tmp)} {a o : Oper} {p : Oper × Nat} {l m : List (Oper × Nat)} {f : Nat → AV} {σ : List AObj} {K : AS → Prop} : lopsF P E D ds a ((o, 2) :: l) (p :: m) ⟨f, σ⟩ K = vk (sval P E ds f σ o) (kF P E D ds a l m K o.dst f) σ := Eq.trans lF_pre rfl
theorem lG_true {D : Nat → Bool} {ds : List (Option Tmp)} {a o : Oper} {p : Oper × Nat} {l m : List (Oper × Nat)} {f : Nat → AV} {σ : List AObj} {K : AS → Prop} : lopsF P E D ds a ((o, 1) :: l) (p :: m) ⟨f, σ⟩ K = (stabG E D ds f o = true ∧ vk (sval P E ds f σ o) (kF P E D ds a l m K o.dst f) σ) := Eq.trans lF_true rfl
theorem lG_eff {D : Nat → Bool} {ds : List (Option Tmp)} {a : Oper} {p : Oper × Nat} {d : Option Tmp} {op : Op} {ty : TypeId} {pos : String} {af : Array Edge} {l m : List (Oper × Nat)} {f : Nat → AV} {σ : List AObj} {K : AS → Prop} :
    lopsF P E D ds a ((⟨d, op, ty, pos, af, none⟩, 0) :: l) (p :: m) ⟨f, σ⟩ K = (avop P E (aev f) σ ⟨d, op, ty, pos, af, none⟩ (kFE P E D ds a l m K d f σ) ∧ lops P E D ds ((a, 0) :: p :: m) ⟨f, σ⟩ K) := Eq.trans lF_eff rfl
attribute [go_sem] lG_pre lG_true lG_eff
end Go.Fw

/- Shorter walks: what goes one way by instances, what is still to be walked gets its name at once, frames are closed as a whole. -/
namespace Go.Fw
open Go
set_option linter.unusedSectionVars false
variable [TB]
variable {P : Program} {E : Env} {keep : Nat → List Nat} {n0 : Nat}
section
variable {K : AS → Prop} {Q : Exit → AS → Prop} {s : AS} {i id : Nat}
instance : Nx (thenQ K Q .normal s) (K s) := ⟨fun h => h⟩
instance : Nx (thenQ K Q .ret s) (Q .ret s) := ⟨fun h => h⟩
instance : Nx (thenQ K Q (.exit i) s) (Q (.exit i) s) := ⟨fun h => h⟩
instance : Nx (blockQ id Q .normal s) (Q .normal s) := ⟨fun h => h⟩
instance : Nx (blockQ id Q .ret s) (Q .ret s) := ⟨fun h => h⟩
instance (priority := high) : Nx (blockQ id Q (.exit id) s) (Q .normal s) := ⟨fun h => by rw [blockQ_e, if_pos rfl]; exact h⟩
instance : Nx (scopeQ Q .normal s) (Q .normal s) := ⟨fun h => h⟩
instance : Nx (scopeQ Q .ret s) (Q .ret s) := ⟨fun h => h⟩
instance : Nx (scopeQ Q (.exit i) s) (Q (.exit i) s) := ⟨fun h => h⟩
/-- Another block's exit goes on. -/
theorem t_bx {j : Nat} (h : Q (.exit j) s) (hn : j ≠ id := by decide) : blockQ id Q (.exit j) s := by rw [blockQ_e, if_neg hn]; exact h
end
section
variable {ops : List (Option Tmp)} {o : Oper} {l : List Oper} {K : AS → Prop} {d : Option Tmp} {f : Nat → AV} {x : AV} {σ : List AObj}
instance (priority := high + 1) : Ny (kE P E ops (o :: l) K d f x σ) (∀ L : HL l, aops P E ops (o :: L.v) ⟨putF f d x, σ⟩ K) := ⟨fun h => t_kE (t_hideE h)⟩
instance (priority := high + 1) : Ny (kD P E ops (o :: l) K d f x σ) (∀ L : HL l, dops P E ops (o :: L.v) ⟨putF f d x, σ⟩ K) := ⟨fun h => t_kD (t_hideD h)⟩
instance (priority := high + 1) {L : HL (o :: l)} : Ny (kE P E ops L.v K d f x σ) (∀ L : HL l, aops P E ops (o :: L.v) ⟨putF f d x, σ⟩ K) := ⟨fun h => t_kE (t_openE (t_hideE h))⟩
instance (priority := high + 1) {L : HL (o :: l)} : Ny (kD P E ops L.v K d f x σ) (∀ L : HL l, dops P E ops (o :: L.v) ⟨putF f d x, σ⟩ K) := ⟨fun h => t_kD (t_openD (t_hideD h))⟩
end
theorem t_rh {id : Nat} {o : Oper} {l : List Oper} {Q : Exit → AS → Prop} {s : AS} (h : ∀ (K : KT (Q .normal)) (L : HL l), aops P E (dsOf (o :: l).toArray) (o :: L.v) s (keepK K.k (keep id))) : awp P E keep n0 (.region id (o :: l).toArray false) Q s :=
  t_region fun K => t_hideE (h K)
theorem t_dwh {id : Nat} {o : Oper} {l : List Oper} {Q : Exit → AS → Prop} {s : AS} (hB : Region.lexB .any (o :: l).toArray = true := by kernel_rfl) (h : ∀ (K : KT (Q .normal)) (L : HL l), dops P E (dsOf (o :: l).toArray) (o :: L.v) s (keepK K.k (keep id))) : awp P E keep n0 (.region id (o :: l).toArray true) Q s :=
  t_draw hB fun K => t_hideD (h K)
instance {id : Nat} {Q : Exit → AS → Prop} {s : AS} : Nx (awp P E keep n0 (.region id (List.toArray []) false) Q s) (∀ K : KT (Q .normal), aops P E (dsOf (List.toArray [])) [] s (keepK K.k (keep id))) := ⟨fun h => t_region h⟩
instance {id : Nat} {o : Oper} {l : List Oper} {Q : Exit → AS → Prop} {s : AS} : Ny (awp P E keep n0 (.region id (o :: l).toArray false) Q s) (∀ (K : KT (Q .normal)) (L : HL l), aops P E (dsOf (o :: l).toArray) (o :: L.v) s (keepK K.k (keep id))) := ⟨t_rh⟩
instance {c : Operand} {a b : Code} {Q : Exit → AS → Prop} {s : AS} : Ny (awp P E keep n0 (.cond c a b) Q s) (∀ (A : PT (awp P E keep n0 a Q s)) (B : PT (awp P E keep n0 b Q s)), condP (aev s.f c) A.k B.k) := ⟨t_cond⟩
/-- The end of a walk. -/
class Nl (G : Prop) (H : outParam Prop) : Prop where
  go : H → G
theorem nl {G H : Prop} [Nl G H] (h : H) : G := Nl.go h
instance {rs : List ResultVar} {k : AV → List AObj → Prop} {K : QT (endQ P rs k)} {s : AS} : Nl (K.k .ret s) (endP (resV P s rs) k s.σ) := ⟨end_retE⟩
instance {rs : List ResultVar} {k : AV → List AObj → Prop} {K : QT (endQ P rs k)} {s : AS} : Nl (K.k .normal s) (endP (resV P s rs) k s.σ) := ⟨end_normE⟩
attribute [go_sem] fin
/-- A frame, closed as a whole. -/
theorem lf {G : Prop} (h : G := by
  simp only [updL_nil, updL_cons, delF_top, delF_upd, Nat.reduceEqDiff, reduceIte]
  refine Le.frameS (by first | rfl | (simp only [go_sem]; try rfl)) ?_
  repeat' (first | exact leF_top _ | exact (fun _ => LeR.refl _) | (with_reducible refine leF_sl ?_ ?_) | (refine leF_upd ?_ ?_))
  all_goals (first | exact LeR.top _ | exact LeR.refl _ | (refine LeR.of_eq ?_; (try simp only [go_sem]); try rfl) | ((try simp only [go_sem]); try rfl))) : G := h
theorem wf {p : Prop} (h : p := by first | (simp only; omega) | omega) : p := h
end Go.Fw

/- Own arrays cut short in a slot; own arrays of numbers of which some turn; environments with functions that may panic. -/
namespace Go.Fw
open Go
set_option linter.unusedSectionVars false
variable [TB]
variable {P : Program}

/-- A slot that holds the beginning of an own array holds the array itself, cut short. -/
theorem le_cut {n0 : Nat} {f : Nat → AV} {σ : List AObj} (i : Nat) {o e sz ver hi : Nat} {xs : List AV} (h : f i = .sub o ver sz 0 hi) (ho : σ[o]? = some (.arr e sz xs ver false)) : Le n0 ⟨f, σ⟩ ⟨upd f i (.arr o (ver + 1)), σ.set o (.arr e sz (xs.take hi) (ver + 1) false)⟩ := by
  intro cx G w N a _ hr hf
  have hi' : R G (.sub o ver sz 0 hi) (a.tmps.getD i undef) := by rw [← h]; exact hf.rel i
  obtain ⟨G', h1, h2, h3⟩ := hr.cutArr ho hi'
  refine ⟨G', h2, hf.size, hf.defers, fun j => ?_⟩
  simp only [upd]
  split
  · rename_i e; subst e; exact h3
  · exact (hf.rel j).mono h1

/-! ### Functions that may panic -/
structure XCon (P : Program) (X : AV → List AObj → Prop) where
  f : FuncId
  c : List AV → List AObj → (AV → List AObj → Prop) → Prop
  ok : ∀ args σ k, c args σ k → XEC P X f args σ k
  fk : fok P f = true
def xcL {X : AV → List AObj → Prop} : List (XCon P X) → (FuncId → List AV → List AObj → (AV → List AObj → Prop) → Prop) → FuncId → List AV → List AObj → (AV → List AObj → Prop) → Prop
  | [], E, f, args, σ, k => E f args σ k
  | c :: l, E, f, args, σ, k => if f = c.f then c.c args σ k else xcL l E f args σ k
def envX (X : AV → List AObj → Prop) (xs : List (XCon P X)) (E : Env) : Env := ⟨E.zero, E.wr, E.eg, E.jk, E.pc, xcL xs E.ec, X⟩
section
variable {X : AV → List AObj → Prop} {xs : List (XCon P X)} {E : Env}
theorem envx_zero {t : TypeId} : (envX X xs E).zero t = E.zero t := rfl
theorem envx_wr {t : Nat} : (envX X xs E).wr t = E.wr t := rfl
theorem envx_eg {t : Nat} : (envX X xs E).eg t = E.eg t := rfl
theorem envx_jk {t : TypeId} : (envX X xs E).jk t = E.jk t := rfl
theorem envx_pc {f : FuncId} {args : List AV} : (envX X xs E).pc f args = E.pc f args := rfl
theorem envx_ec {f : FuncId} {args : List AV} {σ : List AObj} {k : AV → List AObj → Prop} : (envX X xs E).ec f args σ k = xcL xs E.ec f args σ k := rfl
theorem envx_px {x : AV} {σ : List AObj} : (envX X xs E).px x σ = X x σ := rfl
end
attribute [go_sem] envx_zero envx_wr envx_eg envx_jk envx_pc envx_ec envx_px xcL
end Go.Fw

/- Regions in any order in which some operations that make objects may come one before the other: all orders are walked, and what they leave is brought to one numbering of the objects. -/
namespace Go.Fw
open Go
set_option linter.unusedSectionVars false
variable [TB]
variable {P : Program} {E : Env} {keep : Nat → List Nat} {n0 : Nat}

/-! ### All orders of a group -/
def picks {α : Type} : List α → List (α × List α)
  | [] => []
  | a :: l => (a, l) :: (picks l).map fun p => (p.1, a :: p.2)
/-- The operations of a group, in every order. -/
def perm4 (P : Program) (E : Env) (D : Nat → Bool) (ds : List (Option Tmp)) : Nat → List (Nat × Oper) → (AS → Prop) → AS → Prop
  | 0, _, K, s => K s
  | n + 1, g, K, s => ∀ p ∈ picks g, astep P E ds p.1.2 s fun x σ' => Kp D s.σ σ' ∧ perm4 P E D ds n p.2 K ⟨putF s.f p.1.2.dst x, σ'⟩
/-- What is to be walked of such a region. -/
def lopsP (P : Program) (E : Env) (D : Nat → Bool) (ds : List (Option Tmp)) (l1 : Option (List (Oper × Nat))) (n : Nat) (g : Option (List (Nat × Oper))) (l2 : Option (List (Oper × Nat))) (s : AS) (K : AS → Prop) : Prop := match l1, g, l2 with
  | some l1, some g, some l2 => lops P E D ds l1 s fun s => perm4 P E D ds n g (fun s => lops P E D ds l2 s K) s
  | _, _, _ => False
theorem lp_some {D : Nat → Bool} {ds : List (Option Tmp)} {l1 l2 : List (Oper × Nat)} {n : Nat} {g : List (Nat × Oper)} {s : AS} {K : AS → Prop} :
    lopsP P E D ds (some l1) n (some g) (some l2) s K = lops P E D ds l1 s fun s => perm4 P E D ds n g (fun s => lops P E D ds l2 s K) s := rfl
def kPE (P : Program) (E : Env) (D : Nat → Bool) (ds : List (Option Tmp)) (n : Nat) (g : List (Nat × Oper)) (K : AS → Prop) (d : Option Tmp) (f : Nat → AV) (σ : List AObj) : AV → List AObj → Prop := fun x σ' => Kp D σ σ' ∧ perm4 P E D ds n g K ⟨putF f d x, σ'⟩
def all4 (P : Program) (E : Env) (D : Nat → Bool) (ds : List (Option Tmp)) (n : Nat) (f : Nat → AV) (σ : List AObj) (K : AS → Prop) : List ((Nat × Oper) × List (Nat × Oper)) → Prop
  | [] => True
  | ((_, ⟨d, op, ty, pos, af, none⟩), r) :: l => avop P E (aev f) σ ⟨d, op, ty, pos, af, none⟩ (kPE P E D ds n r K d f σ) ∧ all4 P E D ds n f σ K l
  | _ => False
theorem p4_all {D : Nat → Bool} {ds : List (Option Tmp)} {n : Nat} {f : Nat → AV} {σ : List AObj} {K : AS → Prop} : ∀ {l : List ((Nat × Oper) × List (Nat × Oper))}, all4 P E D ds n f σ K l → ∀ p ∈ l, astep P E ds p.1.2 ⟨f, σ⟩ fun x σ' => Kp D σ σ' ∧ perm4 P E D ds n p.2 K ⟨putF f p.1.2.dst x, σ'⟩
  | [], _, p, hp => by cases hp
  | ((i, ⟨d, op, ty, pos, af, none⟩), r) :: l, h, p, hp => by
    simp only [all4] at h
    rcases List.mem_cons.1 hp with rfl | hp
    · exact h.1
    · exact p4_all h.2 p hp
  | ((i, ⟨d, op, ty, pos, af, some g⟩), r) :: l, h, p, hp => by exact h.elim
theorem t_p4 {D : Nat → Bool} {ds : List (Option Tmp)} {n : Nat} {g : List (Nat × Oper)} {f : Nat → AV} {σ : List AObj} {K : AS → Prop} (h : all4 P E D ds n f σ K (picks g)) : perm4 P E D ds (n + 1) g K ⟨f, σ⟩ := p4_all h

end Go.Fw

/- Regions in a chosen order: operations that read boxes are done ahead of appends too ('3'): an append leaves the boxes alone. -/
namespace Go.Fw
open Go
set_option linter.unusedSectionVars false
variable [TB]
variable {P : Program} {E : Env} {keep : Nat → List Nat} {n0 : Nat}
def allD : Nat → Bool := fun _ => true
theorem kp_setA {σ : List AObj} {o : Nat} {e sz ver : Nat} {xs : List AV} {fz : Bool} {X : AObj} (ho : σ[o]? = some (.arr e sz xs ver fz)) : Kp allD σ (σ.set o X) := fun o' t cs _ h => by
  by_cases e : o = o'
  · subst e; rw [ho] at h; cases h
  · rw [List.getElem?_set_ne e]; exact h
theorem kp_appA {σ l : List AObj} : Kp allD σ (σ ++ l) := fun o t cs _ h => by
  rw [List.getElem?_append_left (List.getElem?_eq_some_iff.1 h).1]; exact h
theorem appE_form {σ : List AObj} {ats : Array TypeId} {s x : AV} : (∀ k, appE P σ ats s x k = none) ∨ ∃ p y σ', Kp allD σ σ' ∧ ∀ k, appE P σ ats s x k = some (p ∧ k y σ') := by
  unfold appE
  cases appT P ats with
  | none => exact .inl fun _ => rfl
  | some e => cases srcOf σ x with
    | none => exact .inl fun _ => rfl
    | some q =>
      obtain ⟨sz', ys⟩ := q
      simp only
      split
      · by_cases h : sz' = szT P e ∨ ys = []
        · simp only [if_pos h]
          exact .inr ⟨_, _, _, kp_appA, fun _ => rfl⟩
        · simp only [if_neg h]; exact .inl fun _ => trivial
      · rename_i sz xs
        by_cases h : (sz' = sz ∨ ys = []) ∧ sz = szT P e
        · simp only [if_pos h]
          exact .inr ⟨_, _, _, kp_appA, fun _ => rfl⟩
        · simp only [if_neg h]; exact .inl fun _ => trivial
      · rename_i o ver
        split
        · rename_i e' sz xs ver' ho
          by_cases h : ver = ver' ∧ e' = e ∧ sz = szT P e ∧ (sz' = sz ∨ ys = [])
          · simp only [if_pos h]
            exact .inr ⟨_, _, _, kp_setA ho, fun _ => rfl⟩
          · simp only [if_neg h]; exact .inl fun _ => trivial
        · exact .inl fun _ => rfl
      · rename_i o ver sz0 lo hi
        split
        · rename_i e' sz xs ver' ho
          split
          · rename_i sz2 zs hz
            by_cases h : lo = 0 ∧ ver = ver' ∧ e' = e ∧ sz = szT P e ∧ sz0 = sz ∧ (sz2 = sz ∨ zs = [])
            · simp only [if_pos h]
              exact .inr ⟨_, _, _, kp_setA ho, fun _ => rfl⟩
            · simp only [if_neg h]; exact .inl fun _ => trivial
          · exact .inl fun _ => rfl
        · exact .inl fun _ => rfl
      · exact .inl fun _ => rfl
/-- An append without a guard. -/
def appK (o : Oper) : Bool := o.guard.isNone && (match o.op with
  | .call c => (match c.callee with
    | .builtin b => isApp b
    | _ => false)
  | _ => false)
theorem avop_app {ev : Operand → AV} {σ : List AObj} {o : Oper} {k : AV → List AObj → Prop} (ho : appK o = true) (h : avop P E ev σ o k) : avop P E ev σ o (fun x σ' => Kp allD σ σ' ∧ k x σ') := by
  obtain ⟨dst, op, type, pos, after, guard⟩ := o
  simp only [appK, Bool.and_eq_true] at ho
  have hc := ho.2
  have key : (∀ k, aeff P E ev σ ⟨dst, op, type, pos, after, guard⟩ k = none) ∨ ∃ p y σ', Kp allD σ σ' ∧ ∀ k, aeff P E ev σ ⟨dst, op, type, pos, after, guard⟩ k = some (p ∧ k y σ') := by
    cases op <;> simp only at hc
    case call c =>
      split at hc
      · rename_i b hb
        simp only [aeff, hb, if_pos hc]
        split
        · exact appE_form
        · exact .inl fun _ => rfl
      · cases hc
    all_goals cases hc
  unfold avop at h ⊢
  rcases key with hn | ⟨p, y, σ', hk, hs⟩
  · rw [hn] at h ⊢
    simp only at h ⊢
    split at h
    · exact ⟨h.1, Kp.refl _, h.2⟩
    · exact h
  · rw [hs] at h ⊢
    exact ⟨h.1, hk, h.2⟩
theorem astep_kp {ds : List (Option Tmp)} {o : Oper} {s : AS} {k : AV → List AObj → Prop} (ho : (pureK o || appK o) = true) (h : astep P E ds o s k) : ∃ k', astep P E ds o s k' ∧ ∀ x σ', k' x σ' → Kp allD s.σ σ' ∧ k x σ' := by
  rcases Bool.or_eq_true_iff.1 ho with ho | ho
  · exact ⟨_, astep_pure ho h, fun x σ' hk => ⟨by rw [hk.1]; exact Kp.refl _, hk.2⟩⟩
  · have hg : o.guard = none := by simp only [appK, Bool.and_eq_true, Option.isNone_iff_eq_none] at ho; exact ho.1
    refine ⟨fun x σ' => Kp allD s.σ σ' ∧ k x σ', ?_, fun _ _ h => h⟩
    unfold astep at h ⊢
    rw [hg] at h ⊢
    exact avop_app ho h
/-- As long as an operation is not done, all that is done leaves the boxes alone. -/
def preC (md : Region.Mode) (ops : Array Oper) (listed : Array Bool) (i : Nat) (B : List Bool) : Bool :=
  (List.range ops.size).all fun j => match ops[j]? with
    | none => true
    | some o => if B.getD j false = true then !(listed.getD j true) && (j == i || o.after.toList.any fun e => Region.binds md e && B.getD e.on false && decide (e.on < ops.size)) else listed.getD j true || (pureK o || appK o)
theorem preC_spec {md : Region.Mode} {ops : Array Oper} {listed : Array Bool} {i : Nat} {B : List Bool} (h : preC md ops listed i B = true) {j : Nat} {o : Oper} (ho : ops[j]? = some o) :
    (B.getD j false = true → listed.getD j true = false ∧ (j = i ∨ ∃ e ∈ o.after, Region.binds md e = true ∧ B.getD e.on false = true ∧ e.on < ops.size)) ∧ (B.getD j false = false → listed.getD j true = true ∨ (pureK o || appK o) = true) := by
  have hj : j < ops.size := (Array.getElem?_eq_some_iff.1 ho).1
  have := List.all_eq_true.1 h j (List.mem_range.2 hj)
  simp only [ho] at this
  constructor
  · intro hb
    rw [if_pos hb] at this
    simp only [Bool.and_eq_true, Bool.not_eq_true', Bool.or_eq_true, beq_iff_eq, List.any_eq_true, decide_eq_true_eq] at this
    refine ⟨this.1, ?_⟩
    rcases this.2 with h | ⟨e, he, ⟨h1, h2⟩, h3⟩
    · exact .inl h
    · exact .inr ⟨e, by simpa using he, h1, h2, h3⟩
  · intro hb
    rw [if_neg (by rw [hb]; simp)] at this
    exact Bool.or_eq_true_iff.1 this
theorem sAny_pre3 {D : Nat → Bool} {md : Region.Mode} {ops : Array Oper} {Q : AS → Prop} {i : Nat} {oi : Oper} {p : Prop} {x : AV} {B : List Bool} (hi : ops[i]? = some oi) (hp : p)
    (hC : ∀ j oj, ops[j]? = some oj → B.getD j false = true → j ≠ i → ∃ e ∈ oj.after, Region.binds md e = true ∧ B.getD e.on false = true ∧ e.on < ops.size) (hBi : B.getD i false = true) :
    ∀ (fuel : Nat) (listed : Array Bool) (s : AS),
      (∀ j oj, ops[j]? = some oj → j ≠ i → listed.getD j true = false → (∀ e ∈ oj.after, Region.binds md e = true → e.on ≠ i) → oi.apart ops oj = true) →
      (∀ j oj, ops[j]? = some oj → (B.getD j false = true → listed.getD j true = false) ∧ (B.getD j false = false → listed.getD j true = true ∨ (pureK oj || appK oj) = true)) →
      i ∈ Region.ready md ops listed → stabG E allD (dsOf ops) s.f oi = true → sval P E (dsOf ops) s.f s.σ oi = some (p, x) →
      sAny P E D md ops Q fuel (listed.setIfInBounds i true) ⟨putF s.f oi.dst x, s.σ⟩ → sAny P E D md ops Q (fuel + 1) listed s := by
  intro fuel
  have here : ∀ (s : AS) {K : AS → Prop}, stabG E allD (dsOf ops) s.f oi = true → sval P E (dsOf ops) s.f s.σ oi = some (p, x) → K ⟨putF s.f oi.dst x, s.σ⟩ → sOp P E D ops i K s := by
    intro s K hs hy H
    unfold sOp
    rw [hi]
    refine ⟨fun y σ' => y = x ∧ σ' = s.σ, ?_, fun y σ' ⟨e1, e2⟩ => by rw [e1, e2]; exact ⟨Kp.refl _, H⟩⟩
    exact astep_stab hs hy hp ⟨rfl, rfl⟩
  induction fuel with
  | zero =>
    intro listed s _ _ hr hs hy H
    refine ⟨fun h => (by rw [h] at hr; cases hr), fun j hj => ?_⟩
    by_cases hji : j = i
    · subst hji; exact here s hs hy H
    · have := ready_mono hj hji
      rw [H.1] at this
      cases this
  | succ fuel ih =>
    intro listed s hfree hinv hr hs hy H
    refine ⟨fun h => (by rw [h] at hr; cases hr), fun j hj => ?_⟩
    by_cases hji : j = i
    · subst hji; exact here s hs hy H
    · have h1 := H.2 j (ready_mono hj hji)
      obtain ⟨hjun, oj, hoj, hall⟩ := mem_ready.1 hj
      have hnot : ∀ e ∈ oj.after, Region.binds md e = true → e.on ≠ i := fun e he hb heq => by
        have h1 := hall e he hb
        have h0 := (mem_ready.1 hr).1
        rw [heq] at h1
        rcases Nat.lt_or_ge i listed.size with h' | h'
        · simp [h'] at h0 h1; rw [h0] at h1; cases h1
        · simp [Array.getElem?_eq_none h'] at h1
      have hBj : B.getD j false = false := by
        cases hb : B.getD j false with
        | false => rfl
        | true =>
          exfalso
          obtain ⟨e, he, hbd, hBe, hlt⟩ := hC j oj hoj hb hji
          have h1 := hall e he hbd
          obtain ⟨oe, hoe⟩ : ∃ oe, ops[e.on]? = some oe := ⟨_, Array.getElem?_eq_getElem hlt⟩
          have h0 := (hinv e.on oe hoe).1 hBe
          rcases Nat.lt_or_ge e.on listed.size with h' | h'
          · simp [h'] at h0 h1; rw [h0] at h1; cases h1
          · simp [Array.getElem?_eq_none h'] at h1
      have hpj : (pureK oj || appK oj) = true := by
        rcases (hinv j oj hoj).2 hBj with h | h
        · rw [h] at hjun; cases hjun
        · exact h
      obtain ⟨a1, a2, a3⟩ := Oper.apart_spec (hfree j oj hoj hji hjun hnot)
      have hfree' : ∀ k ok, ops[k]? = some ok → k ≠ i → (listed.setIfInBounds j true).getD k true = false →
          (∀ e ∈ ok.after, Region.binds md e = true → e.on ≠ i) → oi.apart ops ok = true := fun k ok hk hki hun hno => by
        refine hfree k ok hk hki ?_ hno
        by_cases hjk : j = k
        · subst hjk; exact hjun
        · rw [getD_set_ne true hjk] at hun; exact hun
      have hinv' : ∀ k ok, ops[k]? = some ok → (B.getD k false = true → (listed.setIfInBounds j true).getD k true = false) ∧ (B.getD k false = false → (listed.setIfInBounds j true).getD k true = true ∨ (pureK ok || appK ok) = true) := fun k ok hk => by
        by_cases hjk : j = k
        · subst hjk
          rw [hoj] at hk
          cases hk
          exact ⟨fun hb => absurd (hBj.symm.trans hb) (by decide), fun _ => .inr hpj⟩
        · rw [getD_set_ne true hjk]; exact hinv k ok hk
      unfold sOp at h1 ⊢
      simp only [hoj] at h1 ⊢
      obtain ⟨k, k1, k2⟩ := h1
      rw [astep_put oj s.f s.σ oi.dst x a1] at k1
      obtain ⟨k', k1', hk'⟩ := astep_kp (s := s) hpj k1
      refine ⟨k', k1', fun y σ' hky' => ?_⟩
      obtain ⟨q0, hky⟩ := hk' y σ' hky'
      obtain ⟨q1, q2⟩ := k2 y σ' hky
      refine ⟨q1, ih (listed.setIfInBounds j true) ⟨putF s.f oj.dst y, σ'⟩ hfree' hinv' (ready_mono hr (Ne.symm hji)) (by rw [stabG_put oi s.f oj.dst y a3]; exact hs) (by rw [sval_put oi s.f σ' oj.dst y a3]; exact sval_kp q0 hs hy) ?_⟩
      rw [Array.setIfInBounds_comm _ _ hji, ← putF_comm s.f x y a2]
      exact q2
/-- The operations in an order that is chosen; those under 3 are done ahead of appends too. -/
def lopsX (P : Program) (E : Env) (D : Nat → Bool) (ds : List (Option Tmp)) : List (Oper × Nat) → AS → (AS → Prop) → Prop
  | [], s, K => K s
  | (o, 0) :: l, s, K => lops P E D ds [(o, 0)] s fun s => lopsX P E D ds l s K
  | (o, 1) :: l, s, K => lops P E D ds [(o, 1)] s fun s => lopsX P E D ds l s K
  | (o, 2) :: l, s, K => lops P E D ds [(o, 2)] s fun s => lopsX P E D ds l s K
  | (o, _ + 3) :: l, s, K => lops P E allD ds [(o, 1)] s fun s => lopsX P E D ds l s K
def preX (md : Region.Mode) (ops : Array Oper) (listed : Array Bool) (i : Nat) : Bool := Region.free md ops listed i && (clos md ops i).getD i false && preC md ops listed i (clos md ops i)
def ordX (md : Region.Mode) (ops : Array Oper) : List (Nat × Nat) → Array Bool → Bool
  | [], listed => (Region.ready md ops listed).isEmpty
  | (i, b) :: l, listed => (Region.ready md ops listed).contains i && (match b with
    | 0 => Region.ready md ops listed == [i]
    | 1 => Region.free md ops listed i
    | 2 => preI md ops listed i
    | _ + 3 => preX md ops listed i) && ordX md ops l (listed.setIfInBounds i true)
theorem sAny_ordX {D : Nat → Bool} {md : Region.Mode} {ops : Array Oper} {Q : AS → Prop} : ∀ (ord : List (Nat × Nat)) (l : List (Oper × Nat)) (listed : Array Bool) (s : AS),
    ordX md ops ord listed = true → pickO ops ord = some l → lopsX P E D (dsOf ops) l s Q → sAny P E D md ops Q ord.length listed s
  | [], l, listed, s, hB, hp, h => by
    cases hp
    exact ⟨by simpa [ordX] using hB, h⟩
  | (i, b) :: ord, l, listed, s, hB, hp, h => by
    simp only [pickO] at hp
    split at hp
    · rename_i o l' ho hl'
      cases hp
      simp only [ordX, Bool.and_eq_true] at hB
      obtain ⟨⟨hr, hf⟩, hB'⟩ := hB
      have hr' : i ∈ Region.ready md ops listed := by simpa using hr
      match b, hf, h with
      | 1, hf, h =>
        simp only at hf
        simp only [lopsX, lops] at h
        obtain ⟨hs, h⟩ := h
        split at h
        · rename_i p x hv
          exact sAny_first ho h.1 ord.length listed s (Region.free_spec ho hf) hr' hs hv (sAny_ordX ord l' _ _ hB' hl' h.2)
        · exact h.elim
      | n + 3, hf, h =>
        simp only [preX, Bool.and_eq_true] at hf
        obtain ⟨⟨h2, h3⟩, h4⟩ := hf
        simp only [lopsX, lops] at h
        obtain ⟨hs, h⟩ := h
        split at h
        · rename_i p x hv
          exact sAny_pre3 (B := clos md ops i) ho h.1 (fun j oj hoj hb hji => by
              rcases ((preC_spec h4 hoj).1 hb).2 with e | e
              · exact absurd e hji
              · exact e) h3 ord.length listed s (Region.free_spec ho h2) (fun j oj hoj => ⟨fun hb => ((preC_spec h4 hoj).1 hb).1, (preC_spec h4 hoj).2⟩) hr' hs hv (sAny_ordX ord l' _ _ hB' hl' h.2)
        · exact h.elim
      | 2, hf, h =>
        simp only [preI, ho, Bool.and_eq_true] at hf
        obtain ⟨⟨⟨h1, h2⟩, h3⟩, h4⟩ := hf
        simp only [lopsX, lops] at h
        split at h
        · rename_i p x hv
          exact sAny_pre (B := clos md ops i) ho h.1 h1 (fun j oj hoj hb hji => by
              rcases ((preB_spec h4 hoj).1 hb).2 with e | e
              · exact absurd e hji
              · exact e) h3 ord.length listed s (Region.free_spec ho h2) (fun j oj hoj => ⟨fun hb => ((preB_spec h4 hoj).1 hb).1, (preB_spec h4 hoj).2⟩) hr' hv (sAny_ordX ord l' _ _ hB' hl' h.2)
        · exact h.elim
      | 0, hf, h =>
        simp only [beq_iff_eq] at hf
        simp only [lopsX, lops] at h
        refine ⟨fun e => (by rw [e] at hr'; cases hr'), fun j hj => ?_⟩
        rw [hf] at hj
        obtain rfl : j = i := by simpa using hj
        unfold sOp
        rw [ho]
        exact ⟨_, h, fun x σ' hk => ⟨hk.1, sAny_ordX ord l' _ _ hB' hl' hk.2⟩⟩
    · cases hp
def lopsXO (P : Program) (E : Env) (D : Nat → Bool) (ds : List (Option Tmp)) (l : Option (List (Oper × Nat))) (s : AS) (K : AS → Prop) : Prop := match l with
  | some l => lopsX P E D ds l s K
  | none => False
theorem lX_some {D : Nat → Bool} {ds : List (Option Tmp)} {l : List (Oper × Nat)} {s : AS} {K : AS → Prop} : lopsXO P E D ds (some l) s K = lopsX P E D ds l s K := rfl
theorem lX_nil {D : Nat → Bool} {ds : List (Option Tmp)} {s : AS} {K : AS → Prop} : lopsX P E D ds [] s K = K s := rfl
theorem lX_0 {D : Nat → Bool} {ds : List (Option Tmp)} {o : Oper} {l : List (Oper × Nat)} {s : AS} {K : AS → Prop} : lopsX P E D ds ((o, 0) :: l) s K = lops P E D ds [(o, 0)] s fun s => lopsX P E D ds l s K := rfl
theorem lX_1 {D : Nat → Bool} {ds : List (Option Tmp)} {o : Oper} {l : List (Oper × Nat)} {s : AS} {K : AS → Prop} : lopsX P E D ds ((o, 1) :: l) s K = lops P E D ds [(o, 1)] s fun s => lopsX P E D ds l s K := rfl
theorem lX_2 {D : Nat → Bool} {ds : List (Option Tmp)} {o : Oper} {l : List (Oper × Nat)} {s : AS} {K : AS → Prop} : lopsX P E D ds ((o, 2) :: l) s K = lops P E D ds [(o, 2)] s fun s => lopsX P E D ds l s K := rfl
theorem lX_3 {D : Nat → Bool} {ds : List (Option Tmp)} {o : Oper} {l : List (Oper × Nat)} {s : AS} {K : AS → Prop} : lopsX P E D ds ((o, 3) :: l) s K = lops P E allD ds [(o, 1)] s fun s => lopsX P E D ds l s K := rfl
theorem t_drawX {id : Nat} {ops : List Oper} {Q : Exit → AS → Prop} {s : AS} (D : Nat → Bool) (ord : List (Nat × Nat)) (hB : (ord.length == ops.toArray.size && ordX .any ops.toArray ord (Array.replicate ops.toArray.size false)) = true)
    (h : ∀ K : KT (Q .normal), lopsXO P E D (dsOf ops.toArray) (pickO ops.toArray ord) s (keepK K.k (keep id))) : awp P E keep n0 (.region id ops.toArray true) Q s := by
  have := h ⟨fun s' => ∃ s'', Le n0 s' s'' ∧ Q .normal s'', fun s h => ⟨s, fun _ G _ _ _ _ h1 h2 => ⟨G, h1, h2⟩, h⟩⟩
  unfold keepK lopsXO at this
  split at this
  · rename_i l hl
    simp only [Bool.and_eq_true, beq_iff_eq] at hB
    have h2 := sAny_ordX (D := D) (E := E) (P := P) (md := .any) ord l (Array.replicate ops.toArray.size false) s hB.2 hl this
    rw [hB.1] at h2
    exact .inr ⟨D, h2⟩
  · exact this.elim
attribute [go_sem] lX_some lX_nil lX_0 lX_1 lX_2 lX_3 allD
end Go.Fw

/- The way back to a loop's head that gives up several objects. -/
namespace Go.Fw
open Go
set_option linter.unusedSectionVars false
variable [TB]
variable {P : Program}
theorem le_dropM {n0 : Nat} {f : Nat → AV} {l m : List AObj} (hn : n0 ≤ l.length) (hb : l.all (lowO l.length) = true) (hf : ∀ j, low1 l.length (f j) = true) : Le n0 ⟨f, l ++ m⟩ ⟨f, l⟩ := by
  intro cx G w N a h0 hr hfr
  have get : ∀ {o : Nat} {x : AObj}, l[o]? = some x → (l ++ m)[o]? = some x := fun {o x} h => by
    rw [List.getElem?_append_left (List.getElem?_eq_some_iff.1 h).1]; exact h
  refine ⟨{ G with n := l.length }, ⟨rfl, ?_, ?_, ?_, hr.cell, hr.os, hr.tape, hr.output, hr.size, hr.block, hr.old, ?_⟩, hfr.size, hfr.defers, fun j => low1_R (hfr.rel j) (hf j)⟩
  · intro o x ho
    have hk := hr.ok o x (get ho)
    cases x with
    | gone => trivial
    | box t cs =>
      have hm : lowO l.length (.box t cs) = true := by
        rw [List.all_eq_true] at hb
        exact hb _ (List.mem_of_getElem? ho)
      obtain ⟨g, cur, h1, h2, h3, h4, h5⟩ := hk
      simp only [lowO, List.all_eq_true] at hm
      exact ⟨g, cur, h1, h2, h3, fun i hi => ⟨low1_R (h4 i hi).1 (hm _ (getD_mem' hi)), (h4 i hi).2⟩, h5⟩
    | arr e sz xs ver fz =>
      obtain ⟨h1, h2, h3⟩ := hk
      refine ⟨h1, h2, ?_⟩
      cases fz with
      | true => exact h3
      | false =>
        simp only [Bool.false_eq_true, if_false] at h3 ⊢
        rcases h3 with h3 | ⟨g, cap, cur, h3⟩
        · exact .inl h3
        · exact .inr ⟨g, cap, cur, h3.keep (CLe.refl _) rfl h3.unc⟩
    | map es =>
      obtain ⟨g, ents, clock, h1, h2⟩ := hk
      exact ⟨g, ents, clock, h1, h2.keep (CLe.refl _) rfl h2.unc⟩
  · intro o1 o2 ob1 ob2 g h1 h2 h3 h4 h5 h6
    exact hr.inj o1 o2 ob1 ob2 g (get h1) h2 (get h3) h4 h5 h6
  · intro o x g h1 h2 h3
    exact hr.own o x g (get h1) h2 h3
  · have h := hr.le0
    exact ⟨h.C, by show cx.G0.n ≤ l.length; omega, h.ver, h.b, h.p⟩

theorem le_backM {n0 : Nat} {f g : Nat → AV} {σ l m : List AObj} (e : σ = l ++ m) (hn : n0 ≤ l.length) (hb : l.all (lowO l.length) = true) (hg : ∀ j, low1 l.length (g j) = true) (h : ∀ j, LeR (f j) (g j)) : Le n0 ⟨f, σ⟩ ⟨g, l⟩ := by
  subst e
  exact (Le.frame h).trans (le_dropM hn hb hg)
end Go.Fw

/- The way back to a loop's head that gives up several objects behind others that are not named; groups of makers in walks; the last two objects in the other order. -/
namespace Go.Fw
open Go
set_option linter.unusedSectionVars false
variable [TB]
variable {P : Program} {E : Env} {keep : Nat → List Nat} {n0 : Nat}
/-! ### Groups of makers -/
section
variable {D : Nat → Bool} {ds : List (Option Tmp)} {K : AS → Prop} {f : Nat → AV} {σ σ' : List AObj} {n : Nat} {x : AV} {d : Option Tmp}
theorem a4_nil : all4 P E D ds n f σ K [] = True := rfl
theorem a4_cons {i : Nat} {op : Op} {ty : TypeId} {pos : String} {af : Array Edge} {r : List (Nat × Oper)} {l : List ((Nat × Oper) × List (Nat × Oper))} :
    all4 P E D ds n f σ K (((i, ⟨d, op, ty, pos, af, none⟩), r) :: l) = (avop P E (aev f) σ ⟨d, op, ty, pos, af, none⟩ (kPE P E D ds n r K d f σ) ∧ all4 P E D ds n f σ K l) := rfl
theorem pk_nil {α : Type} : picks ([] : List α) = [] := rfl
theorem pk_cons {α : Type} {a : α} {l : List α} : picks (a :: l) = (a, l) :: (picks l).map fun p => (p.1, a :: p.2) := rfl
instance {s : AS} {g : List (Nat × Oper)} : Ny (perm4 P E D ds 0 g K s) (K s) := ⟨fun h => h⟩
instance {g : List (Nat × Oper)} : Ny (perm4 P E D ds (n + 1) g K ⟨f, σ⟩) (all4 P E D ds n f σ K (picks g)) := ⟨t_p4⟩
end
attribute [go_sem] a4_nil a4_cons pk_nil pk_cons lp_some

end Go.Fw

/- Two objects in the other order, with objects behind them; an own array among a call's arguments that is frozen first. -/
namespace Go.Fw
open Go
set_option linter.unusedSectionVars false
variable [TB]
variable {P : Program} {n0 : Nat}
end Go.Fw

/- The end of a function that returns its caller's own objects: nothing of them is closed. -/
namespace Go.Fw
open Go
set_option linter.unusedSectionVars false
variable [TB]
variable {P : Program} {σ : List AObj}
end Go.Fw

/- An environment in which every call is asked for its contract there and then. -/
namespace Go.Fw
open Go
set_option linter.unusedSectionVars false
variable [TB]
variable {P : Program}
/-- A call that is still to be shown (a name keeps the walk from parting it). -/
structure CallU (P : Program) (f : FuncId) (args : List AV) (σ : List AObj) (k : AV → List AObj → Prop) : Prop where
  fk : fok P f = true
  ec : EC P f args σ k
def envU (P : Program) (jk : TypeId → AV) (zer : TypeId → AV) (wr eg : Nat → Bool) (ps : List (PCon P)) : Env := ⟨zer, wr, eg, jk, pcL ps, fun f args σ k => CallU P f args σ k, fun _ _ => False⟩
section
variable {jk zer : TypeId → AV} {wr eg : Nat → Bool} {ps : List (PCon P)}
theorem envu_zero {t : TypeId} : (envU P jk zer wr eg ps).zero t = zer t := rfl
theorem envu_wr {t : Nat} : (envU P jk zer wr eg ps).wr t = wr t := rfl
theorem envu_eg {t : Nat} : (envU P jk zer wr eg ps).eg t = eg t := rfl
theorem envu_jk {t : TypeId} : (envU P jk zer wr eg ps).jk t = jk t := rfl
theorem envu_pc {f : FuncId} {args : List AV} : (envU P jk zer wr eg ps).pc f args = pcL ps f args := rfl
theorem envu_ec {f : FuncId} {args : List AV} {σ : List AObj} {k : AV → List AObj → Prop} : (envU P jk zer wr eg ps).ec f args σ k = CallU P f args σ k := rfl
end
attribute [go_sem] envu_zero envu_wr envu_eg envu_jk envu_pc envu_ec
end Go.Fw

/- Groups of operations in any order, of which some wait for others of the group. -/
namespace Go.Fw
open Go
set_option linter.unusedSectionVars false
variable [TB]
variable {P : Program} {E : Env} {keep : Nat → List Nat} {n0 : Nat}
/-- The operations of a group that may come next; (a, b) in 'dep': b waits for a. -/
def picksD (dep : List (Nat × Nat)) (g : List (Nat × Oper)) : List ((Nat × Oper) × List (Nat × Oper)) := (picks g).filter fun p => dep.all fun e => !(e.2 == p.1.1 && g.any fun q => q.1 == e.1)
def perm4D (P : Program) (E : Env) (D : Nat → Bool) (ds : List (Option Tmp)) (dep : List (Nat × Nat)) : Nat → List (Nat × Oper) → (AS → Prop) → AS → Prop
  | 0, _, K, s => K s
  | n + 1, g, K, s => ∀ p ∈ picksD dep g, astep P E ds p.1.2 s fun x σ' => Kp D s.σ σ' ∧ perm4D P E D ds dep n p.2 K ⟨putF s.f p.1.2.dst x, σ'⟩
def lopsPD (P : Program) (E : Env) (D : Nat → Bool) (ds : List (Option Tmp)) (dep : List (Nat × Nat)) (l1 : Option (List (Oper × Nat))) (n : Nat) (g : Option (List (Nat × Oper))) (l2 : Option (List (Oper × Nat))) (s : AS) (K : AS → Prop) : Prop := match l1, g, l2 with
  | some l1, some g, some l2 => lops P E D ds l1 s fun s => perm4D P E D ds dep n g (fun s => lops P E D ds l2 s K) s
  | _, _, _ => False
theorem lpD_some {D : Nat → Bool} {ds : List (Option Tmp)} {dep : List (Nat × Nat)} {l1 l2 : List (Oper × Nat)} {n : Nat} {g : List (Nat × Oper)} {s : AS} {K : AS → Prop} :
    lopsPD P E D ds dep (some l1) n (some g) (some l2) s K = lops P E D ds l1 s fun s => perm4D P E D ds dep n g (fun s => lops P E D ds l2 s K) s := rfl
def kPD (P : Program) (E : Env) (D : Nat → Bool) (ds : List (Option Tmp)) (dep : List (Nat × Nat)) (n : Nat) (g : List (Nat × Oper)) (K : AS → Prop) (d : Option Tmp) (f : Nat → AV) (σ : List AObj) : AV → List AObj → Prop := fun x σ' => Kp D σ σ' ∧ perm4D P E D ds dep n g K ⟨putF f d x, σ'⟩
def all4D (P : Program) (E : Env) (D : Nat → Bool) (ds : List (Option Tmp)) (dep : List (Nat × Nat)) (n : Nat) (f : Nat → AV) (σ : List AObj) (K : AS → Prop) : List ((Nat × Oper) × List (Nat × Oper)) → Prop
  | [] => True
  | ((_, ⟨d, op, ty, pos, af, none⟩), r) :: l => avop P E (aev f) σ ⟨d, op, ty, pos, af, none⟩ (kPD P E D ds dep n r K d f σ) ∧ all4D P E D ds dep n f σ K l
  | _ => False
theorem p4D_all {D : Nat → Bool} {ds : List (Option Tmp)} {dep : List (Nat × Nat)} {n : Nat} {f : Nat → AV} {σ : List AObj} {K : AS → Prop} : ∀ {l : List ((Nat × Oper) × List (Nat × Oper))}, all4D P E D ds dep n f σ K l → ∀ p ∈ l, astep P E ds p.1.2 ⟨f, σ⟩ fun x σ' => Kp D σ σ' ∧ perm4D P E D ds dep n p.2 K ⟨putF f p.1.2.dst x, σ'⟩
  | [], _, p, hp => by cases hp
  | ((i, ⟨d, op, ty, pos, af, none⟩), r) :: l, h, p, hp => by
    simp only [all4D] at h
    rcases List.mem_cons.1 hp with rfl | hp
    · exact h.1
    · exact p4D_all h.2 p hp
  | ((i, ⟨d, op, ty, pos, af, some g⟩), r) :: l, h, p, hp => by exact h.elim
section
variable {D : Nat → Bool} {ds : List (Option Tmp)} {dep : List (Nat × Nat)} {K : AS → Prop} {f : Nat → AV} {σ σ' : List AObj} {n : Nat} {x : AV} {d : Option Tmp}
theorem a4D_nil : all4D P E D ds dep n f σ K [] = True := rfl
theorem a4D_cons {i : Nat} {op : Op} {ty : TypeId} {pos : String} {af : Array Edge} {r : List (Nat × Oper)} {l : List ((Nat × Oper) × List (Nat × Oper))} :
    all4D P E D ds dep n f σ K (((i, ⟨d, op, ty, pos, af, none⟩), r) :: l) = (avop P E (aev f) σ ⟨d, op, ty, pos, af, none⟩ (kPD P E D ds dep n r K d f σ) ∧ all4D P E D ds dep n f σ K l) := rfl
instance {s : AS} {g : List (Nat × Oper)} : Ny (perm4D P E D ds dep 0 g K s) (K s) := ⟨fun h => h⟩
instance {g : List (Nat × Oper)} : Ny (perm4D P E D ds dep (n + 1) g K ⟨f, σ⟩) (all4D P E D ds dep n f σ K (picksD dep g)) := ⟨p4D_all⟩
end
attribute [go_sem] a4D_nil a4D_cons lpD_some
end Go.Fw

/- An own array that a box holds is frozen. -/
namespace Go.Fw
open Go
set_option linter.unusedSectionVars false
variable [TB]
end Go.Fw

/- An own array whose elements may hold own arrays: it stands as a box. -/
namespace Go.Fw
open Go
set_option linter.unusedSectionVars false
variable [TB]
end Go.Fw

/- The end of a function that returns some of what it made: the first objects stay. -/
namespace Go.Fw
open Go
set_option linter.unusedSectionVars false
variable [TB]
variable {P : Program} {σ : List AObj}
end Go.Fw

/- The objects behind the first ones in another order, that is given. -/
namespace Go.Fw
open Go
set_option linter.unusedSectionVars false
variable [TB]
variable {P : Program} {n0 : Nat}
end Go.Fw
