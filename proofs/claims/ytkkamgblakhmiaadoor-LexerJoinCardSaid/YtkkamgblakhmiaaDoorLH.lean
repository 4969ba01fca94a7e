/- strings.Builder: the shelf's contract of copyCheck, laid at this program; WriteString of nothing at a builder without a buffer; String of a builder whose buffer may be frozen behind its capacity. -/
import Derived.Ground.Names2Prog
import Derived.Shelf.Strings.Builder1
import Derived.Test.YtkkamgblakhmiaaDoorProg
import Derived.Test.YtkkamgblakhmiaaDoorLG

set_option linter.all false

set_option linter.unusedVariables false
namespace Go.Proofs
open Go.Shelf Go.RowKit
section
variable {P : Program} {ρ : Ren}
set_option maxHeartbeats 2000000 in
set_option maxRecDepth 100000 in
theorem bld_ws (L : Lays.n166 P ρ) (X : Builder.Extra P ρ) (b : Nat) (w w1 : World) (p : Value) (fz : Nat × Nat) (hfz : ∀ off, off < 2 → ¬ (fz.1 ≤ off ∧ off < fz.2))
    (hch : Calls P (ρ.f 240) #[.pointer (some ⟨b, 0, none⟩)] w fun e w' => e = .returned (.tuple #[]) ∧ w' = w1)
    (hbk : w1.heap[b]? = some (.cells #[p, .slice none 0 0] (ρ.t 72) fz))
    (hAP : ∀ ty, (Builtin.append_ #[ρ.t 37, ρ.t 9] ty #[.slice none 0 0, .string .empty]).run P w1 = .ok (.slice none 0 0) w1) :
    Calls P (ρ.f 166) #[.pointer (some ⟨b, 0, none⟩), .string .empty] w fun e w' => e = .returned (.tuple #[.int .i64 0, .nilIface]) ∧ w' = w1.setCell ⟨b, 1, none⟩ (.slice none 0 0) := by
  have mixed := L.mixed
  have t72 := L.t72; have a72 := L.a72; have z72 := L.z72; have v72 := L.v72; have u72 := run_underlying L.t72
  have t70 := L.t70; have a70 := L.a70; have z70 := L.z70; have v70 := L.v70; have u70 := run_underlying L.t70
  have t37 := L.t37; have a37 := L.a37; have z37 := L.z37; have v37 := L.v37; have u37 := run_underlying L.t37
  have t3 := L.t3; have a3 := L.a3; have z3 := L.z3; have v3 := L.v3; have u3 := run_underlying L.t3
  have t9 := L.t9; have a9 := L.a9; have z9 := L.z9; have v9 := L.v9; have u9 := run_underlying L.t9
  have t4 := L.t4; have a4 := L.a4; have z4 := L.z4; have v4 := L.v4; have u4 := run_underlying L.t4
  have t164 := L.t164; have a164 := L.a164; have z164 := L.z164; have v164 := L.v164; have u164 := run_underlying L.t164
  have t5 := X.t5; have a5 := X.a5; have z5 := X.z5; have v5 := X.v5; have u5 := run_underlying X.t5
  have e240 : ∀ args w, (callFunc (ρ.f 240) args).run P w = .ok (.enter (ρ.f 240) args) w := enters_of L.f240 (by kernel_rfl) rfl
  go_enter L.f166, Body.n166_ntmps ρ
  go_wp2_with (go_at_fn (ρ.f 240); refine hch.mono ?_)
  rintro e w1' ⟨rfl, rfl⟩
  have c0 : w1'.cell? ⟨b, 0, none⟩ = some p := by rw [Lib.cell_of_heap hbk]; rfl
  have c1 : w1'.cell? ⟨b, 1, none⟩ = some (.slice none 0 0) := by rw [Lib.cell_of_heap hbk]; rfl
  have f1 : w1'.frozen? ⟨b, 1, none⟩ = false := by
    have := hfz 1 (by omega)
    simp only [World.frozen?, hbk]
    simpa using this
  have hAP' := hAP (ρ.t 37)
  go_wp2
  go_ret2
  exact ⟨rfl, rfl⟩
set_option maxHeartbeats 1000000 in
set_option maxRecDepth 100000 in
theorem bld_str (L : Lays.n169 P ρ) (X : Builder.Extra P ρ) (b g cap : Nat) (l : List UInt8) (p : Value) (cur : Array Value) (fz fz' : Nat × Nat) (w : World) (hne : g ≠ b)
    (hbk : w.heap[b]? = some (.cells #[p, .slice (some ⟨g, 0, none⟩) l.length cap] (ρ.t 72) fz')) (hg : w.heap[g]? = some (.cells cur (ρ.t 5) fz)) (hnc : l.length ≤ cap) (hcm : cap ≤ maxLen) (hcs : cur.size = cap)
    (hcell : ∀ (j : Nat) (x : UInt8), l[j]? = some x → cur[j]? = some (Value.int .u8 x.toNat)) (h0 : l ≠ []) :
    Calls P (ρ.f 169) #[.pointer (some ⟨b, 0, none⟩)] w fun e w' => e = .returned (.string ⟨l.toArray⟩) ∧ w' = w.drew.freeze ⟨g, 0, none⟩ l.length := by
  have hl0 : l.length ≠ 0 := by simpa using h0
  have c1 : w.drew.cell? ⟨b, 1, none⟩ = some (.slice (some ⟨g, 0, none⟩) l.length cap) := by
    have : w.drew.heap[b]? = some (.cells #[p, .slice (some ⟨g, 0, none⟩) l.length cap] (ρ.t 72) fz') := hbk
    rw [Lib.cell_of_heap this]; rfl
  have hSD : (Builtin.unsafeSliceData_ #[(ρ.t 37)] (ρ.t 127) #[.slice (some ⟨g, 0, none⟩) l.length cap]).run P w.drew = .ok (.pointer (some ⟨g, 0, none⟩)) w.drew :=
    Lib.run_unsafeSliceData_row _ _ _ _ _ _ (by omega)
  have hUS : (Builtin.unsafeString_ #[(ρ.t 127), (ρ.t 3)] (ρ.t 9) #[.pointer (some ⟨g, 0, none⟩), .int .i64 l.length]).run P w.drew = .ok (.string ⟨l.toArray⟩) (w.drew.freeze ⟨g, 0, none⟩ l.length) := by
    refine Lib.run_unsafeString_row w.drew (ρ.t 127) (ρ.t 3) (ρ.t 9) (ρ.t 5) L.t127 X.cellsByte g cur.size (by have hg' : w.drew.heap[g]? = some (.cells cur (ρ.t 5) fz) := hg; simp [World.shape?, hg']) l h0 (by omega) (by unfold maxLen at hcm; omega) ?_
    intro j x hx
    have hg' : w.drew.heap[g]? = some (.cells cur (ρ.t 5) fz) := hg
    have hadd : (⟨g, 0, none⟩ : Addr).add j = ⟨g, j, none⟩ := by
      by_cases e : j = 0 <;> simp [Addr.add, e]
    rw [hadd, Lib.cell_of_heap hg']
    exact hcell j x hx
  have mixed := L.mixed
  have t72 := L.t72; have a72 := L.a72; have z72 := L.z72; have v72 := L.v72; have u72 := run_underlying L.t72
  have t70 := L.t70; have a70 := L.a70; have z70 := L.z70; have v70 := L.v70; have u70 := run_underlying L.t70
  have t37 := L.t37; have a37 := L.a37; have z37 := L.z37; have v37 := L.v37; have u37 := run_underlying L.t37
  have t127 := L.t127; have a127 := L.a127; have z127 := L.z127; have v127 := L.v127; have u127 := run_underlying L.t127
  have t3 := L.t3; have a3 := L.a3; have z3 := L.z3; have v3 := L.v3; have u3 := run_underlying L.t3
  have t9 := L.t9; have a9 := L.a9; have z9 := L.z9; have v9 := L.v9; have u9 := run_underlying L.t9
  have t5 := X.t5; have a5 := X.a5; have z5 := X.z5; have v5 := X.v5; have u5 := run_underlying X.t5
  go_enter L.f169, Body.n169_ntmps ρ
  go_wp2
  go_region_o
  all_goals (go_wp2; go_ret; exact ⟨rfl, rfl⟩)
set_option maxHeartbeats 1000000 in
set_option maxRecDepth 100000 in
theorem bld_nil (L : Lays.n169 P ρ) (X : Builder.Extra P ρ) (b : Nat) (p : Value) (fz : Nat × Nat) (w : World) (hbk : w.heap[b]? = some (.cells #[p, .slice none 0 0] (ρ.t 72) fz)) :
    Calls P (ρ.f 169) #[.pointer (some ⟨b, 0, none⟩)] w fun e w' => e = .returned (.string ⟨#[]⟩) ∧ w' = w.drew := by
  have hUS := Any.unsafeString_none L X
  have c1 : w.drew.cell? ⟨b, 1, none⟩ = some (.slice none 0 0) := by
    have : w.drew.heap[b]? = some (.cells #[p, .slice none 0 0] (ρ.t 72) fz) := hbk
    rw [Lib.cell_of_heap this]; rfl
  have hSD : (Builtin.unsafeSliceData_ #[(ρ.t 37)] (ρ.t 127) #[.slice none 0 0]).run P w.drew = .ok (.pointer none) w.drew := rfl
  have mixed := L.mixed
  have t72 := L.t72; have a72 := L.a72; have z72 := L.z72; have v72 := L.v72; have u72 := run_underlying L.t72
  have t70 := L.t70; have a70 := L.a70; have z70 := L.z70; have v70 := L.v70; have u70 := run_underlying L.t70
  have t37 := L.t37; have a37 := L.a37; have z37 := L.z37; have v37 := L.v37; have u37 := run_underlying L.t37
  have t127 := L.t127; have a127 := L.a127; have z127 := L.z127; have v127 := L.v127; have u127 := run_underlying L.t127
  have t3 := L.t3; have a3 := L.a3; have z3 := L.z3; have v3 := L.v3; have u3 := run_underlying L.t3
  have t9 := L.t9; have a9 := L.a9; have z9 := L.z9; have v9 := L.v9; have u9 := run_underlying L.t9
  have t5 := X.t5; have a5 := X.a5; have z5 := X.z5; have v5 := X.v5; have u5 := run_underlying X.t5
  go_enter L.f169, Body.n169_ntmps ρ
  go_wp2
  go_region_o
  all_goals (go_wp2; go_ret; exact ⟨rfl, rfl⟩)
end
/-! ### At this program -/
def Tryd.renBld : Go.Shelf.Ren := ⟨fun | 240 => 55 | 276 => 64 | 166 => 42 | 169 => 43 | n => n, fun | 70 => 64 | 72 => 67 | 164 => 82 | 37 => 65 | 75 => 56 | 80 => 69 | 127 => 75 | n => n, fun n => n⟩
theorem Tryd.laysBld : Go.Proofs.Lays.n240 Tryd.prog Tryd.renBld := {
  mixed := by kernel_rfl
  f240 := Tryd.func55.trans (congrArg some (by kernel_rfl))
  f276 := Tryd.func64.trans (congrArg some (by kernel_rfl))
  t0 := Tryd.underlying0
  a0 := Tryd.isAgg0
  z0 := Tryd.sizeOf0
  v0 := Tryd.zeroValue0
  t4 := Tryd.underlying4
  a4 := Tryd.isAgg4
  z4 := Tryd.sizeOf4
  v4 := Tryd.zeroValue4
  t9 := Tryd.underlying9
  a9 := Tryd.isAgg9
  z9 := Tryd.sizeOf9
  v9 := Tryd.zeroValue9
  t20 := Tryd.underlying20
  a20 := Tryd.isAgg20
  z20 := Tryd.sizeOf20
  v20 := Tryd.zeroValue20
  t70 := Tryd.underlying64
  a70 := Tryd.isAgg64
  z70 := Tryd.sizeOf64
  v70 := Tryd.zeroValue64
  t72 := Tryd.underlying67
  a72 := Tryd.isAgg67
  z72 := Tryd.sizeOf67
  v72 := Tryd.zeroValue67
  t164 := Tryd.underlying82
  a164 := Tryd.isAgg82
  z164 := Tryd.sizeOf82
  v164 := Tryd.zeroValue82 }
theorem Tryd.laysBldW : Go.Proofs.Lays.n166 Tryd.prog Tryd.renBld := {
  mixed := by kernel_rfl
  f166 := Tryd.func42.trans (congrArg some (by kernel_rfl))
  f240 := Tryd.func55.trans (congrArg some (by kernel_rfl))
  f276 := Tryd.func64.trans (congrArg some (by kernel_rfl))
  t0 := Tryd.underlying0
  a0 := Tryd.isAgg0
  z0 := Tryd.sizeOf0
  v0 := Tryd.zeroValue0
  t3 := Tryd.underlying3
  a3 := Tryd.isAgg3
  z3 := Tryd.sizeOf3
  v3 := Tryd.zeroValue3
  t4 := Tryd.underlying4
  a4 := Tryd.isAgg4
  z4 := Tryd.sizeOf4
  v4 := Tryd.zeroValue4
  t9 := Tryd.underlying9
  a9 := Tryd.isAgg9
  z9 := Tryd.sizeOf9
  v9 := Tryd.zeroValue9
  t20 := Tryd.underlying20
  a20 := Tryd.isAgg20
  z20 := Tryd.sizeOf20
  v20 := Tryd.zeroValue20
  t37 := Tryd.underlying65
  a37 := Tryd.isAgg65
  z37 := Tryd.sizeOf65
  v37 := Tryd.zeroValue65
  t70 := Tryd.underlying64
  a70 := Tryd.isAgg64
  z70 := Tryd.sizeOf64
  v70 := Tryd.zeroValue64
  t72 := Tryd.underlying67
  a72 := Tryd.isAgg67
  z72 := Tryd.sizeOf67
  v72 := Tryd.zeroValue67
  t75 := Tryd.underlying56
  a75 := Tryd.isAgg56
  z75 := Tryd.sizeOf56
  v75 := Tryd.zeroValue56
  t164 := Tryd.underlying82
  a164 := Tryd.isAgg82
  z164 := Tryd.sizeOf82
  v164 := Tryd.zeroValue82 }
theorem Tryd.laysBldS : Go.Proofs.Lays.n169 Tryd.prog Tryd.renBld := {
  mixed := by kernel_rfl
  f169 := Tryd.func43.trans (congrArg some (by kernel_rfl))
  t0 := Tryd.underlying0
  a0 := Tryd.isAgg0
  z0 := Tryd.sizeOf0
  v0 := Tryd.zeroValue0
  t3 := Tryd.underlying3
  a3 := Tryd.isAgg3
  z3 := Tryd.sizeOf3
  v3 := Tryd.zeroValue3
  t9 := Tryd.underlying9
  a9 := Tryd.isAgg9
  z9 := Tryd.sizeOf9
  v9 := Tryd.zeroValue9
  t37 := Tryd.underlying65
  a37 := Tryd.isAgg65
  z37 := Tryd.sizeOf65
  v37 := Tryd.zeroValue65
  t70 := Tryd.underlying64
  a70 := Tryd.isAgg64
  z70 := Tryd.sizeOf64
  v70 := Tryd.zeroValue64
  t72 := Tryd.underlying67
  a72 := Tryd.isAgg67
  z72 := Tryd.sizeOf67
  v72 := Tryd.zeroValue67
  t127 := Tryd.underlying75
  a127 := Tryd.isAgg75
  z127 := Tryd.sizeOf75
  v127 := Tryd.zeroValue75 }
theorem Tryd.xBld : Go.Proofs.Builder.Extra Tryd.prog Tryd.renBld where
  sizeBuilder := by kernel_rfl
  liesBuilder := by kernel_rfl
  t5 := Tryd.underlying5
  a5 := Tryd.isAgg5
  z5 := Tryd.sizeOf5
  v5 := Tryd.zeroValue5
  infoByte := by kernel_rfl
  cellsByte := by kernel_rfl
  sizeByte := by kernel_rfl
  neB5 := by decide
theorem Tryd.check_used (b : Nat) (w : World) (h0 : w.cell? ⟨b, 0, none⟩ = some (.pointer (some ⟨b, 0, none⟩))) :
    Calls Tryd.prog 55 #[.pointer (some ⟨b, 0, none⟩)] w fun e w' => e = .returned (.tuple #[]) ∧ w' = w := Any.Builder_copyCheck_used Tryd.laysBld Tryd.xBld.toX72 b w h0
theorem Tryd.check_fresh (b : Nat) (w : World) (h0 : w.cell? ⟨b, 0, none⟩ = some (.pointer none)) (hsh : w.shape? b = some (67, 2)) (hfz : w.frozen? ⟨b, 0, none⟩ = false) :
    Calls Tryd.prog 55 #[.pointer (some ⟨b, 0, none⟩)] w fun e w' => e = .returned (.tuple #[]) ∧ w' = w.setCell ⟨b, 0, none⟩ (.pointer (some ⟨b, 0, none⟩)) := Any.Builder_copyCheck_fresh Tryd.laysBld Tryd.xBld.toX72 b w h0 hsh hfz
end Go.Proofs

/- strings.Builder as an own object. -/
namespace Go.Proofs.YtkkamgblakhmiaaDoor
open Go Go.Fw
set_option maxRecDepth 20000
/-- The first cell of a builder. -/
def bp (u : Bool) (o : Nat) : AV := if u then .ref o 0 else .lit (.pointer none)
theorem check_core {u : Bool} {cx : Cx} {G : Gh} {σ : List AObj} {w : World} {o : Nat} {x : AV} {v : Value} (hr : Rel cx G σ w) (ho : σ[o]? = some (.box 67 [bp u o, x])) (hv : R G (.ref o 0) v) :
    ∃ b w', v = .pointer (some ⟨b, 0, none⟩) ∧ (Calls Tryd.prog 55 #[v] w fun e w'' => e = .returned (.tuple #[]) ∧ w'' = w') ∧ Rel cx G (σ.set o (.box 67 [.ref o 0, x])) w' := by
  obtain ⟨b, cur, hb, rfl, hblk, hsz, hc⟩ := box_of hr ho hv
  have hon := hv.ref_inv.1
  have hu : ∀ j, G.C b j = none := by
    obtain ⟨b', _, h1, _, _, _, h5⟩ := hr.ok o _ ho
    rw [hb] at h1; cases h1; exact h5
  have hc0 : w.cell? ⟨b, 0, none⟩ = some (cur.getD 0 undef) := by
    rw [hblk.cell, Array.getD_eq_getD_getElem?, Array.getElem?_eq_getElem (by rw [hsz]; simp)]; rfl
  have h0 := (hc 0 (by simp)).1
  cases u with
  | false =>
    have e0 := (show R G (.lit (.pointer none)) _ from h0).lit_inv
    have hsh : w.shape? b = some (67, 2) := by
      obtain ⟨fz, h1, _⟩ := hblk
      simp [World.shape?, h1, hsz]
    refine ⟨b, _, rfl, Tryd.check_fresh b w (by rw [hc0, e0]) hsh (hblk.frozen 0 (by rw [hsz]; simp)), ?_⟩
    refine hr.touch (g := b) ho rfl (by rw [hb]; rfl) (setCell_touch w ⟨b, 0, none⟩ _) ?_
    refine ⟨b, _, hb, setCell_blk hblk _, by simp [hsz], fun i hi => ?_, hu⟩
    match i, hi with
    | 0, _ =>
      have e : (cur.setIfInBounds 0 (.pointer (some ⟨b, 0, none⟩))).getD 0 undef = .pointer (some ⟨b, 0, none⟩) := by
        rw [Array.getD_eq_getD_getElem?, Array.getElem?_setIfInBounds_self_of_lt (by rw [hsz]; simp)]; rfl
      rw [e]
      exact ⟨.ref _ _ _ hon hb, rfl⟩
    | 1, _ =>
      have e : (cur.setIfInBounds 0 (.pointer (some ⟨b, 0, none⟩))).getD 1 undef = cur.getD 1 undef := by
        rw [Array.getD_eq_getD_getElem?, Array.getElem?_setIfInBounds_ne (by omega), ← Array.getD_eq_getD_getElem?]
      rw [e]
      exact hc 1 (by simp)
  | true =>
    obtain ⟨_, b', h1, h2⟩ := (show R G (.ref o 0) _ from h0).ref_inv
    rw [hb] at h1
    cases h1
    refine ⟨b, w, rfl, Tryd.check_used b w (by rw [hc0, h2]), ?_⟩
    have := set_sameO ho
    rw [show bp true o = .ref o 0 from rfl] at this
    rw [this]; exact hr
theorem one_arg {G : Gh} {x : AV} {vs : List Value} (h : RLG G [x] vs) : ∃ v, vs = [v] ∧ R G x v := by
  obtain ⟨h1, h2⟩ := h
  match vs, h1 with
  | [v], _ => exact ⟨v, rfl, h2 0 (by simp)⟩
theorem two_arg {G : Gh} {x y : AV} {vs : List Value} (h : RLG G [x, y] vs) : ∃ v u, vs = [v, u] ∧ R G x v ∧ R G y u := by
  obtain ⟨h1, h2⟩ := h
  match vs, h1 with
  | [v, u], _ => exact ⟨v, u, rfl, h2 0 (by simp), h2 1 (by simp)⟩
theorem check_ec {u : Bool} {σ : List AObj} {o : Nat} {x : AV} {k : AV → List AObj → Prop} (ho : σ[o]? = some (.box 67 [bp u o, x])) (hk : k (.lit (.tuple #[])) (σ.set o (.box 67 [.ref o 0, x]))) : EC Tryd.prog 55 [.ref o 0] σ k := by
  intro cx G w vs hr hl
  obtain ⟨v, rfl, hv⟩ := one_arg hl
  obtain ⟨b, w', _, h2, h3⟩ := check_core hr ho hv
  refine h2.mono ?_
  rintro e w'' ⟨rfl, rfl⟩
  exact ⟨_, G, _, _, rfl, Gh.le.refl G, h3, .clo _ _ (.lit _), hk⟩
def chkK (o : Nat) (b : Option AObj) (σ : List AObj) (k : AV → List AObj → Prop) : Prop := match b with
  | some (.box 67 [.lit (.pointer none), x]) => k (.lit (.tuple #[])) (σ.set o (.box 67 [.ref o 0, x]))
  | some (.box 67 [.ref o' 0, x]) => if o' = o then k (.lit (.tuple #[])) (σ.set o (.box 67 [.ref o 0, x])) else False
  | _ => False
theorem chkK_f {o : Nat} {x : AV} {σ : List AObj} {k : AV → List AObj → Prop} : chkK o (some (.box 67 [.lit (.pointer none), x])) σ k = k (.lit (.tuple #[])) (σ.set o (.box 67 [.ref o 0, x])) := rfl
theorem chkK_u {o : Nat} {x : AV} {σ : List AObj} {k : AV → List AObj → Prop} : chkK o (some (.box 67 [.ref o 0, x])) σ k = k (.lit (.tuple #[])) (σ.set o (.box 67 [.ref o 0, x])) := by simp [chkK]
noncomputable def ecn55 : ECon Tryd.prog where
  f := 55
  c := fun args σ k => match args with
    | [.ref o 0] => chkK o σ[o]? σ k
    | _ => False
  ok := by
    intro args σ k h
    split at h
    · rename_i o
      generalize hb : σ[o]? = b at h
      unfold chkK at h
      split at h
      · exact check_ec (u := false) hb h
      · split at h
        · rename_i e; subst e; exact check_ec (u := true) hb h
        · exact h.elim
      · exact h.elim
    · exact h.elim
  fk := fk55
theorem ecn55_f : ecn55.f = 55 := rfl
theorem ecn55_c {o : Nat} {σ : List AObj} {k : AV → List AObj → Prop} : ecn55.c [.ref o 0] σ k = chkK o σ[o]? σ k := rfl
attribute [go_sem] chkK_f chkK_u ecn55_f ecn55_c
/-! ### The bytes -/
def ub (l : List UInt8) : List AV := ints .u8 (bytesI (bs l))
theorem ub_def (l : List UInt8) : ints .u8 (bytesI (bs l)) = ub l := rfl
theorem ub_map (l : List UInt8) : ub l = l.map fun c => .lit (.int .u8 c.toNat) := by simp [ub, ints, bytesI, bs]
theorem ub_len (l : List UInt8) : (ub l).length = l.length := by rw [ub_map]; simp
theorem flat_ub (l : List UInt8) : flat (ub l) = ub l := by
  rw [ub_map]
  induction l with
  | nil => rfl
  | cons c l ih => simp only [List.map_cons, flat, List.flatMap_cons, AV.cells, List.singleton_append] at *; rw [ih]
theorem ub_app (a b : List UInt8) : ub a ++ ub b = ub (a ++ b) := by simp [ub_map]
attribute [go_sem] ub_def ub_len
/-! ### Writing -/
noncomputable def E38 : Env := envJ (P := Tryd.prog) jk zer (fun _ => false) (fun _ => false) [] [ecn55]
theorem E38_ok : EnvOk Tryd.prog E38 := envJOk zer_ok
set_option maxHeartbeats 2000000 in
theorem ws_new {u : Bool} {σ : List AObj} {o : Nat} {l : List UInt8} (hl : l.length ≤ 100000000) {k : AV → List AObj → Prop} (ho : σ[o]? = some (.box 67 [bp u o, .lit (.slice none 0 0)]))
    (hk : k (.tup [.lit (.int .i64 l.length), .lit .nilIface]) (σ.set o (.box 67 [.ref o 0, .arr σ.length 0]) ++ [.arr 5 1 (ub l) 0 false])) : EC Tryd.prog 42 [.ref o 0, .lit (.string (bs l))] σ k := by
  have hlt : o < σ.length := (List.getElem?_eq_some_iff.1 ho).1
  have s1 : ∀ X : AObj, (σ.set o X)[o]? = some X := fun X => List.getElem?_set_self hlt
  have s2 : ∀ X Y : AObj, (σ.set o X ++ [Y])[o]? = some X := fun X Y => by rw [List.getElem?_append_left (by simpa using hlt)]; exact s1 X
  have s3 : ∀ X Y Z : AObj, (σ.set o X ++ [Y]).set o Z = σ.set o Z ++ [Y] := fun X Y Z => by rw [List.set_append_left _ _ (by simpa using hlt), List.set_set]
  cases u with
  | false =>
    replace ho : σ[o]? = some (.box 67 [.lit (.pointer none), .lit (.slice none 0 0)]) := ho
    refine ec_ofR E38_ok mixed (kp42) (rs := [.tmp 4, .tmp 5]) Tryd.func42 rfl (by kernel_rfl) (by kernel_rfl) (Nat.le_of_ble_eq_true rfl) ?_
    simp only [initF_cons, initF_nil, Nat.reduceAdd]
    refine t_name fun KF => ?_
    unfold E38
    repeat' (first
     | (with_reducible first | refine t_seq fun K => ?_ | refine t_block ?_ | refine t_scope ?_ | refine t_label ?_ | refine t_skip ?_ | refine t_exit ?_ | refine t_ret ?_ | refine t_k ?_ | refine t_gF ?_ | exact kp_nil | exact Kp.refl _ | exact kp_to | refine kp_cons ?_ | refine kp_arr ?_ | refine kp_app ?_ | refine t_p ?_ | refine t_br (fun hc => ?_) fun hc => ?_)
     | ((with_reducible first | refine t_kE (t_openE ?_) | refine t_kD (t_openD ?_) | refine t_kE ?_ | refine t_kD ?_ | refine t_gS ?_ | refine t_kL ?_ | refine t_kLF ?_ ?_ | refine t_region fun K => ?_ | refine t_cond fun A B => ?_ | refine t_draw (by kernel_rfl) fun K => ?_); (try (first | refine t_hideE fun KL => ?_ | refine t_hideD fun KL => ?_)); simp only [go_sem, geff, kp42, ho, s1, s2, s3, List.length_set])
     | ((with_reducible refine kp_skip ?_ ?_); rfl) | simp only [thenQ, blockQ, scopeQ, Nat.reduceEqDiff, reduceIte] | (with_reducible first | refine And.intro ?_ ?_ | intro vr))
    all_goals try (first | (with_reducible assumption) | (intros; (try simp only [Bool.and_eq_true, Bool.or_eq_true, Bool.or_eq_false_iff, Bool.not_eq_true', Bool.not_eq_false', decide_eq_true_eq, decide_eq_false_iff_not, beq_iff_eq, beq_eq_false_iff_ne, bne_iff_ne, bne_eq_false_iff_eq, ne_eq, inI64, List.length_append] at *) <;> omega) | (intros; (with_reducible first | refine impB_ofR ?_ | refine and_ofB ?_ ?_) <;> with_reducible first | assumption | (refine impB_ofR ?_; assumption)) | ((try simp only [Bool.and_eq_true] at vr); simp only [impB, vr, Bool.or_true, Bool.true_or, Bool.and_self, Bool.not_true, Bool.not_false, Bool.and_true]; done))
    all_goals ((first | refine end_retE ?_ | refine end_normE ?_); simp only [fin, go_sem])
    exact hk
  | true =>
    replace ho : σ[o]? = some (.box 67 [.ref o 0, .lit (.slice none 0 0)]) := ho
    refine ec_ofR E38_ok mixed (kp42) (rs := [.tmp 4, .tmp 5]) Tryd.func42 rfl (by kernel_rfl) (by kernel_rfl) (Nat.le_of_ble_eq_true rfl) ?_
    simp only [initF_cons, initF_nil, Nat.reduceAdd]
    refine t_name fun KF => ?_
    unfold E38
    repeat' (first
     | (with_reducible first | refine t_seq fun K => ?_ | refine t_block ?_ | refine t_scope ?_ | refine t_label ?_ | refine t_skip ?_ | refine t_exit ?_ | refine t_ret ?_ | refine t_k ?_ | refine t_gF ?_ | exact kp_nil | exact Kp.refl _ | exact kp_to | refine kp_cons ?_ | refine kp_arr ?_ | refine kp_app ?_ | refine t_p ?_ | refine t_br (fun hc => ?_) fun hc => ?_)
     | ((with_reducible first | refine t_kE (t_openE ?_) | refine t_kD (t_openD ?_) | refine t_kE ?_ | refine t_kD ?_ | refine t_gS ?_ | refine t_kL ?_ | refine t_kLF ?_ ?_ | refine t_region fun K => ?_ | refine t_cond fun A B => ?_ | refine t_draw (by kernel_rfl) fun K => ?_); (try (first | refine t_hideE fun KL => ?_ | refine t_hideD fun KL => ?_)); simp only [go_sem, geff, kp42, ho, s1, s2, s3, List.length_set])
     | ((with_reducible refine kp_skip ?_ ?_); rfl) | simp only [thenQ, blockQ, scopeQ, Nat.reduceEqDiff, reduceIte] | (with_reducible first | refine And.intro ?_ ?_ | intro vr))
    all_goals try (first | (with_reducible assumption) | (intros; (try simp only [Bool.and_eq_true, Bool.or_eq_true, Bool.or_eq_false_iff, Bool.not_eq_true', Bool.not_eq_false', decide_eq_true_eq, decide_eq_false_iff_not, beq_iff_eq, beq_eq_false_iff_ne, bne_iff_ne, bne_eq_false_iff_eq, ne_eq, inI64, List.length_append] at *) <;> omega) | (intros; (with_reducible first | refine impB_ofR ?_ | refine and_ofB ?_ ?_) <;> with_reducible first | assumption | (refine impB_ofR ?_; assumption)) | ((try simp only [Bool.and_eq_true] at vr); simp only [impB, vr, Bool.or_true, Bool.true_or, Bool.and_self, Bool.not_true, Bool.not_false, Bool.and_true]; done))
    all_goals ((first | refine end_retE ?_ | refine end_normE ?_); simp only [fin, go_sem])
    exact hk
set_option maxHeartbeats 2000000 in
theorem ws_old {σ : List AObj} {o o2 ver : Nat} {xs : List AV} {l : List UInt8} (hl : l.length ≤ 100000000) {k : AV → List AObj → Prop} (ho : σ[o]? = some (.box 67 [.ref o 0, .arr o2 ver])) (h2 : σ[o2]? = some (.arr 5 1 xs ver false)) (hx : xs.length ≤ 100000000)
    (hk : k (.tup [.lit (.int .i64 l.length), .lit .nilIface]) ((σ.set o (.box 67 [.ref o 0, .arr o2 (ver + 1)])).set o2 (.arr 5 1 (xs ++ ub l) (ver + 1) false))) : EC Tryd.prog 42 [.ref o 0, .lit (.string (bs l))] σ k := by
  have hlt : o < σ.length := (List.getElem?_eq_some_iff.1 ho).1
  have hlt2 : o2 < σ.length := (List.getElem?_eq_some_iff.1 h2).1
  have hne : o2 ≠ o := by rintro rfl; rw [ho] at h2; cases h2
  have s1 : ∀ X : AObj, (σ.set o X)[o]? = some X := fun X => List.getElem?_set_self hlt
  have s2 : ∀ X : AObj, (σ.set o X)[o2]? = some (.arr 5 1 xs ver false) := fun X => by rw [List.getElem?_set_ne (Ne.symm hne)]; exact h2
  have s3 : ∀ X Y : AObj, ((σ.set o X).set o2 Y)[o]? = some X := fun X Y => by rw [List.getElem?_set_ne hne]; exact s1 X
  have s4 : ∀ X Y Z : AObj, ((σ.set o X).set o2 Y).set o Z = (σ.set o Z).set o2 Y := fun X Y Z => by rw [List.set_comm _ _ hne, List.set_set]
  refine ec_ofR E38_ok mixed (kp42) (rs := [.tmp 4, .tmp 5]) Tryd.func42 rfl (by kernel_rfl) (by kernel_rfl) (Nat.le_of_ble_eq_true rfl) ?_
  simp only [initF_cons, initF_nil, Nat.reduceAdd]
  refine t_name fun KF => ?_
  unfold E38
  repeat' (first
   | (with_reducible first | refine t_seq fun K => ?_ | refine t_block ?_ | refine t_scope ?_ | refine t_label ?_ | refine t_skip ?_ | refine t_exit ?_ | refine t_ret ?_ | refine t_k ?_ | refine t_gF ?_ | exact kp_nil | exact Kp.refl _ | exact kp_to | refine kp_cons ?_ | refine kp_arr ?_ | refine kp_app ?_ | refine t_p ?_ | refine t_br (fun hc => ?_) fun hc => ?_)
   | ((with_reducible first | refine t_kE (t_openE ?_) | refine t_kD (t_openD ?_) | refine t_kE ?_ | refine t_kD ?_ | refine t_gS ?_ | refine t_kL ?_ | refine t_kLF ?_ ?_ | refine t_region fun K => ?_ | refine t_cond fun A B => ?_ | refine t_draw (by kernel_rfl) fun K => ?_); (try (first | refine t_hideE fun KL => ?_ | refine t_hideD fun KL => ?_)); simp only [go_sem, geff, kp42, ho, s1, s2, s3, s4, List.length_set])
   | ((with_reducible refine kp_skip ?_ ?_); rfl) | simp only [thenQ, blockQ, scopeQ, Nat.reduceEqDiff, reduceIte] | (with_reducible first | refine And.intro ?_ ?_ | intro vr))
  all_goals try (first | (with_reducible assumption) | (intros; (try simp only [Bool.and_eq_true, Bool.or_eq_true, Bool.or_eq_false_iff, Bool.not_eq_true', Bool.not_eq_false', decide_eq_true_eq, decide_eq_false_iff_not, beq_iff_eq, beq_eq_false_iff_ne, bne_iff_ne, bne_eq_false_iff_eq, ne_eq, inI64, List.length_append] at *) <;> omega) | (intros; (with_reducible first | refine impB_ofR ?_ | refine and_ofB ?_ ?_) <;> with_reducible first | assumption | (refine impB_ofR ?_; assumption)) | ((try simp only [Bool.and_eq_true] at vr); simp only [impB, vr, Bool.or_true, Bool.true_or, Bool.and_self, Bool.not_true, Bool.not_false, Bool.and_true]; done))
  all_goals ((first | refine end_retE ?_ | refine end_normE ?_); simp only [fin, go_sem])
  exact hk
set_option maxHeartbeats 2000000 in
theorem wb_new {u : Bool} {σ : List AObj} {o : Nat} {c : Int} {k : AV → List AObj → Prop} (ho : σ[o]? = some (.box 67 [bp u o, .lit (.slice none 0 0)]))
    (hk : k (.lit .nilIface) (σ.set o (.box 67 [.ref o 0, .arr σ.length 0]) ++ [.arr 5 1 ([.lit (.int .u8 c)]) 0 false])) : EC Tryd.prog 41 [.ref o 0, .lit (.int .u8 c)] σ k := by
  have hlt : o < σ.length := (List.getElem?_eq_some_iff.1 ho).1
  have s1 : ∀ X : AObj, (σ.set o X)[o]? = some X := fun X => List.getElem?_set_self hlt
  have s2 : ∀ X Y : AObj, (σ.set o X ++ [Y])[o]? = some X := fun X Y => by rw [List.getElem?_append_left (by simpa using hlt)]; exact s1 X
  have s3 : ∀ X Y Z : AObj, (σ.set o X ++ [Y]).set o Z = σ.set o Z ++ [Y] := fun X Y Z => by rw [List.set_append_left _ _ (by simpa using hlt), List.set_set]
  cases u with
  | false =>
    replace ho : σ[o]? = some (.box 67 [.lit (.pointer none), .lit (.slice none 0 0)]) := ho
    refine ec_ofR E38_ok mixed (kp41) (rs := [.tmp 4]) Tryd.func41 rfl (by kernel_rfl) (by kernel_rfl) (Nat.le_of_ble_eq_true rfl) ?_
    simp only [initF_cons, initF_nil, Nat.reduceAdd]
    refine t_name fun KF => ?_
    unfold E38
    repeat' (first
     | (with_reducible first | refine t_seq fun K => ?_ | refine t_block ?_ | refine t_scope ?_ | refine t_label ?_ | refine t_skip ?_ | refine t_exit ?_ | refine t_ret ?_ | refine t_k ?_ | refine t_gF ?_ | exact kp_nil | exact Kp.refl _ | exact kp_to | refine kp_cons ?_ | refine kp_arr ?_ | refine kp_app ?_ | refine t_p ?_ | refine t_br (fun hc => ?_) fun hc => ?_)
     | ((with_reducible first | refine t_kE (t_openE ?_) | refine t_kD (t_openD ?_) | refine t_kE ?_ | refine t_kD ?_ | refine t_gS ?_ | refine t_kL ?_ | refine t_kLF ?_ ?_ | refine t_region fun K => ?_ | refine t_cond fun A B => ?_ | refine t_draw (by kernel_rfl) fun K => ?_); (try (first | refine t_hideE fun KL => ?_ | refine t_hideD fun KL => ?_)); simp only [go_sem, geff, kp41, ho, s1, s2, s3, List.length_set])
     | ((with_reducible refine kp_skip ?_ ?_); rfl) | simp only [thenQ, blockQ, scopeQ, Nat.reduceEqDiff, reduceIte] | (with_reducible first | refine And.intro ?_ ?_ | intro vr))
    all_goals try (first | (with_reducible assumption) | (intros; (try simp only [Bool.and_eq_true, Bool.or_eq_true, Bool.or_eq_false_iff, Bool.not_eq_true', Bool.not_eq_false', decide_eq_true_eq, decide_eq_false_iff_not, beq_iff_eq, beq_eq_false_iff_ne, bne_iff_ne, bne_eq_false_iff_eq, ne_eq, inI64, List.length_append] at *) <;> omega) | (intros; (with_reducible first | refine impB_ofR ?_ | refine and_ofB ?_ ?_) <;> with_reducible first | assumption | (refine impB_ofR ?_; assumption)) | ((try simp only [Bool.and_eq_true] at vr); simp only [impB, vr, Bool.or_true, Bool.true_or, Bool.and_self, Bool.not_true, Bool.not_false, Bool.and_true]; done))
    all_goals ((first | refine end_retE ?_ | refine end_normE ?_); simp only [fin, go_sem])
    exact hk
  | true =>
    replace ho : σ[o]? = some (.box 67 [.ref o 0, .lit (.slice none 0 0)]) := ho
    refine ec_ofR E38_ok mixed (kp41) (rs := [.tmp 4]) Tryd.func41 rfl (by kernel_rfl) (by kernel_rfl) (Nat.le_of_ble_eq_true rfl) ?_
    simp only [initF_cons, initF_nil, Nat.reduceAdd]
    refine t_name fun KF => ?_
    unfold E38
    repeat' (first
     | (with_reducible first | refine t_seq fun K => ?_ | refine t_block ?_ | refine t_scope ?_ | refine t_label ?_ | refine t_skip ?_ | refine t_exit ?_ | refine t_ret ?_ | refine t_k ?_ | refine t_gF ?_ | exact kp_nil | exact Kp.refl _ | exact kp_to | refine kp_cons ?_ | refine kp_arr ?_ | refine kp_app ?_ | refine t_p ?_ | refine t_br (fun hc => ?_) fun hc => ?_)
     | ((with_reducible first | refine t_kE (t_openE ?_) | refine t_kD (t_openD ?_) | refine t_kE ?_ | refine t_kD ?_ | refine t_gS ?_ | refine t_kL ?_ | refine t_kLF ?_ ?_ | refine t_region fun K => ?_ | refine t_cond fun A B => ?_ | refine t_draw (by kernel_rfl) fun K => ?_); (try (first | refine t_hideE fun KL => ?_ | refine t_hideD fun KL => ?_)); simp only [go_sem, geff, kp41, ho, s1, s2, s3, List.length_set])
     | ((with_reducible refine kp_skip ?_ ?_); rfl) | simp only [thenQ, blockQ, scopeQ, Nat.reduceEqDiff, reduceIte] | (with_reducible first | refine And.intro ?_ ?_ | intro vr))
    all_goals try (first | (with_reducible assumption) | (intros; (try simp only [Bool.and_eq_true, Bool.or_eq_true, Bool.or_eq_false_iff, Bool.not_eq_true', Bool.not_eq_false', decide_eq_true_eq, decide_eq_false_iff_not, beq_iff_eq, beq_eq_false_iff_ne, bne_iff_ne, bne_eq_false_iff_eq, ne_eq, inI64, List.length_append] at *) <;> omega) | (intros; (with_reducible first | refine impB_ofR ?_ | refine and_ofB ?_ ?_) <;> with_reducible first | assumption | (refine impB_ofR ?_; assumption)) | ((try simp only [Bool.and_eq_true] at vr); simp only [impB, vr, Bool.or_true, Bool.true_or, Bool.and_self, Bool.not_true, Bool.not_false, Bool.and_true]; done))
    all_goals ((first | refine end_retE ?_ | refine end_normE ?_); simp only [fin, go_sem])
    exact hk
set_option maxHeartbeats 2000000 in
theorem wb_old {σ : List AObj} {o o2 ver : Nat} {xs : List AV} {c : Int} {k : AV → List AObj → Prop} (ho : σ[o]? = some (.box 67 [.ref o 0, .arr o2 ver])) (h2 : σ[o2]? = some (.arr 5 1 xs ver false)) (hx : xs.length ≤ 100000000)
    (hk : k (.lit .nilIface) ((σ.set o (.box 67 [.ref o 0, .arr o2 (ver + 1)])).set o2 (.arr 5 1 (xs ++ [.lit (.int .u8 c)]) (ver + 1) false))) : EC Tryd.prog 41 [.ref o 0, .lit (.int .u8 c)] σ k := by
  have hlt : o < σ.length := (List.getElem?_eq_some_iff.1 ho).1
  have hlt2 : o2 < σ.length := (List.getElem?_eq_some_iff.1 h2).1
  have hne : o2 ≠ o := by rintro rfl; rw [ho] at h2; cases h2
  have s1 : ∀ X : AObj, (σ.set o X)[o]? = some X := fun X => List.getElem?_set_self hlt
  have s2 : ∀ X : AObj, (σ.set o X)[o2]? = some (.arr 5 1 xs ver false) := fun X => by rw [List.getElem?_set_ne (Ne.symm hne)]; exact h2
  have s3 : ∀ X Y : AObj, ((σ.set o X).set o2 Y)[o]? = some X := fun X Y => by rw [List.getElem?_set_ne hne]; exact s1 X
  have s4 : ∀ X Y Z : AObj, ((σ.set o X).set o2 Y).set o Z = (σ.set o Z).set o2 Y := fun X Y Z => by rw [List.set_comm _ _ hne, List.set_set]
  refine ec_ofR E38_ok mixed (kp41) (rs := [.tmp 4]) Tryd.func41 rfl (by kernel_rfl) (by kernel_rfl) (Nat.le_of_ble_eq_true rfl) ?_
  simp only [initF_cons, initF_nil, Nat.reduceAdd]
  refine t_name fun KF => ?_
  unfold E38
  repeat' (first
   | (with_reducible first | refine t_seq fun K => ?_ | refine t_block ?_ | refine t_scope ?_ | refine t_label ?_ | refine t_skip ?_ | refine t_exit ?_ | refine t_ret ?_ | refine t_k ?_ | refine t_gF ?_ | exact kp_nil | exact Kp.refl _ | exact kp_to | refine kp_cons ?_ | refine kp_arr ?_ | refine kp_app ?_ | refine t_p ?_ | refine t_br (fun hc => ?_) fun hc => ?_)
   | ((with_reducible first | refine t_kE (t_openE ?_) | refine t_kD (t_openD ?_) | refine t_kE ?_ | refine t_kD ?_ | refine t_gS ?_ | refine t_kL ?_ | refine t_kLF ?_ ?_ | refine t_region fun K => ?_ | refine t_cond fun A B => ?_ | refine t_draw (by kernel_rfl) fun K => ?_); (try (first | refine t_hideE fun KL => ?_ | refine t_hideD fun KL => ?_)); simp only [go_sem, geff, kp41, ho, s1, s2, s3, s4, List.length_set])
   | ((with_reducible refine kp_skip ?_ ?_); rfl) | simp only [thenQ, blockQ, scopeQ, Nat.reduceEqDiff, reduceIte] | (with_reducible first | refine And.intro ?_ ?_ | intro vr))
  all_goals try (first | (with_reducible assumption) | (intros; (try simp only [Bool.and_eq_true, Bool.or_eq_true, Bool.or_eq_false_iff, Bool.not_eq_true', Bool.not_eq_false', decide_eq_true_eq, decide_eq_false_iff_not, beq_iff_eq, beq_eq_false_iff_ne, bne_iff_ne, bne_eq_false_iff_eq, ne_eq, inI64, List.length_append] at *) <;> omega) | (intros; (with_reducible first | refine impB_ofR ?_ | refine and_ofB ?_ ?_) <;> with_reducible first | assumption | (refine impB_ofR ?_; assumption)) | ((try simp only [Bool.and_eq_true] at vr); simp only [impB, vr, Bool.or_true, Bool.true_or, Bool.and_self, Bool.not_true, Bool.not_false, Bool.and_true]; done))
  all_goals ((first | refine end_retE ?_ | refine end_normE ?_); simp only [fin, go_sem])
  exact hk
theorem arr2 {cur : Array Value} (h : cur.size = 2) : cur = #[cur.getD 0 undef, cur.getD 1 undef] := by
  match cur, h with
  | ⟨[a, b]⟩, _ => rfl
set_option maxHeartbeats 2000000 in
theorem ws_nil {u : Bool} {σ : List AObj} {o : Nat} {k : AV → List AObj → Prop} (ho : σ[o]? = some (.box 67 [bp u o, .lit (.slice none 0 0)]))
    (hk : k (.tup [.lit (.int .i64 0), .lit .nilIface]) (σ.set o (.box 67 [.ref o 0, .lit (.slice none 0 0)]))) : EC Tryd.prog 42 [.ref o 0, .lit (.string (bs []))] σ k := by
  intro cx G w vs hr hl
  obtain ⟨v, v2, rfl, hv, hv2⟩ := two_arg hl
  obtain ⟨b, w1, rfl, hch, hr1⟩ := check_core hr ho hv
  have hlt : o < σ.length := (List.getElem?_eq_some_iff.1 ho).1
  have ho1 : (σ.set o (.box 67 [.ref o 0, .lit (.slice none 0 0)]))[o]? = some (.box 67 [.ref o 0, .lit (.slice none 0 0)]) := List.getElem?_set_self hlt
  obtain ⟨b', cur, hb, hbb, hblk, hsz, hc⟩ := box_of hr1 ho1 hv
  cases hbb
  have e1 : cur.getD 1 undef = .slice none 0 0 := (show R G (.lit (.slice none 0 0)) _ from (hc 1 (by simp)).1).lit_inv
  obtain ⟨fz, hh, hf1, hf2⟩ := hblk
  have hcur : cur = #[cur.getD 0 undef, .slice none 0 0] := by rw [← e1]; exact arr2 hsz
  rw [hcur] at hh
  have e2 := hv2.lit_inv
  subst e2
  obtain ⟨news, k1, k2, k3⟩ := srcOf_sound (P := Tryd.prog) (sz := 1) (sz' := 1) (ys := ub []) hr1 (.clo _ _ (.lit (.string (bs [])))) rfl (.inl rfl)
  have hAP : ∀ ty, (Builtin.append_ #[65, 9] ty #[.slice none 0 0, .string .empty]).run Tryd.prog w1 = .ok (.slice none 0 0) w1 := fun ty =>
    run_app_same (P := Tryd.prog) (ats := #[65, 9]) (e := 5) (by kernel_rfl) ty (news := news) (by exact k1) (by rw [k3]; rfl) (Nat.le_refl 0)
  refine (bld_ws Tryd.laysBldW Tryd.xBld b w w1 _ fz (fun off ho => by rw [hsz] at hf2; exact hf2 off (by simpa using ho)) hch hh hAP).mono ?_
  rintro e w' ⟨rfl, rfl⟩
  refine ⟨_, G, _, _, rfl, Gh.le.refl G, ?_, ?_, hk⟩
  · have := hr1.touch (g := b) (ob' := .box 67 [.ref o 0, .lit (.slice none 0 0)]) ho1 rfl (by rw [hb]; rfl) (setCell_touch w1 ⟨b, 1, none⟩ (.slice none 0 0)) (by
      obtain ⟨b', cur', h1, h2, h3, h4, h5⟩ := hr1.ok o _ ho1
      rw [hb] at h1; cases h1
      refine ⟨b, _, hb, setCell_blk h2 _, by simp [h3], fun i hi => ?_, h5⟩
      match i, hi with
      | 0, _ =>
        have e : (cur'.setIfInBounds 1 (.slice none 0 0)).getD 0 undef = cur'.getD 0 undef := by
          rw [Array.getD_eq_getD_getElem?, Array.getElem?_setIfInBounds_ne (by omega), ← Array.getD_eq_getD_getElem?]
        rw [e]; exact h4 0 (by simp)
      | 1, _ =>
        have e : (cur'.setIfInBounds 1 (.slice none 0 0)).getD 1 undef = .slice none 0 0 := by
          rw [Array.getD_eq_getD_getElem?, Array.getElem?_setIfInBounds_self_of_lt (by rw [h3]; simp)]; rfl
        rw [e]; exact ⟨.clo _ _ (.lit _), rfl⟩)
    rwa [set_sameO ho1] at this
  · exact .tup _ [_, _] rfl (fun i hi => by
      match i, hi with
      | 0, _ => exact .clo _ _ (.lit _)
      | 1, _ => exact .clo _ _ (.lit _))
/-! ### The text -/
set_option maxHeartbeats 2000000 in
theorem str_nil {σ : List AObj} {o : Nat} {p : AV} {k : AV → List AObj → Prop} (ho : σ[o]? = some (.box 67 [p, .lit (.slice none 0 0)])) (hk : k (.lit (.string (bs []))) σ) : EC Tryd.prog 43 [.ref o 0] σ k := by
  intro cx G w vs hr hl
  obtain ⟨v, rfl, hv⟩ := one_arg hl
  obtain ⟨b, cur, hb, rfl, ⟨fz, hh, _, _⟩, hsz, hc⟩ := box_of hr ho hv
  have e1 : cur.getD 1 undef = .slice none 0 0 := (show R G (.lit (.slice none 0 0)) _ from (hc 1 (by simp)).1).lit_inv
  have hcur : cur = #[cur.getD 0 undef, .slice none 0 0] := by rw [← e1]; exact arr2 hsz
  rw [hcur] at hh
  refine (bld_nil Tryd.laysBldS Tryd.xBld b _ fz w hh).mono ?_
  rintro e w' ⟨rfl, rfl⟩
  exact ⟨_, G, _, _, rfl, Gh.le.refl G, hr.more (More.drawn w _), .clo _ _ (.lit _), hk⟩
set_option maxHeartbeats 2000000 in
theorem str_arr {σ : List AObj} {o o2 ver : Nat} {p : AV} {l : List UInt8} {k : AV → List AObj → Prop} (ho : σ[o]? = some (.box 67 [p, .arr o2 ver])) (h2 : σ[o2]? = some (.arr 5 1 (ub l) ver false)) (hl0 : l ≠ [])
    (hk : k (.lit (.string (bs l))) (σ.set o2 .gone)) : EC Tryd.prog 43 [.ref o 0] σ k := by
  intro cx G w vs hr hl
  obtain ⟨v, rfl, hv⟩ := one_arg hl
  obtain ⟨b, cur, hb, rfl, ⟨fz, hh, _, _⟩, hsz, hc⟩ := box_of hr ho hv
  have hok := hr.ok o2 _ h2
  have e1 : cur.getD 1 undef = G.b o2 := (show R G (.arr o2 ver) _ from (hc 1 (by simp)).1).arr_inv.2.2 hok.1.symm
  have h3 := hok.2.2
  simp only [Bool.false_eq_true, if_false] at h3
  have hub : ub l ≠ [] := by rw [ub_map]; simpa using hl0
  rcases h3 with ⟨h3, _⟩ | ⟨g, cap, cu, hk3⟩
  · exact absurd h3 hub
  have hgb := hk3.v
  rw [ub_len] at hgb
  have hcur : cur = #[cur.getD 0 undef, .slice (some ⟨g, 0, none⟩) l.length cap] := by rw [← hgb, ← e1]; exact arr2 hsz
  rw [hcur] at hh
  have hblk := hk3.blk
  obtain ⟨fz2, hg, _, _⟩ := hblk
  have hpos := hk3.pos
  have hng : g ≠ b := by
    rintro rfl
    have hne : o2 ≠ o := by rintro rfl; rw [ho] at h2; cases h2
    exact hne (hr.inj o2 o _ _ g h2 rfl ho rfl (by rw [hgb]; simp [ownB]; omega) (by rw [hb]; rfl))
  have hle := hk3.le
  rw [ub_len] at hle
  refine (bld_str Tryd.laysBldS Tryd.xBld b g cap l _ cu fz2 fz w hng hh hg hle hk3.max (by rw [hk3.size]; simp) (fun j x hx => ?_) hl0).mono ?_
  · have hj : j < l.length := (List.getElem?_eq_some_iff.1 hx).1
    have hfl : flat (ub l) = ub l := flat_ub l
    have := hk3.rel j (by rw [hfl, ub_len]; exact hj)
    rw [hfl, ub_map, List.getD_eq_getElem?_getD, List.getElem?_map, hx] at this
    have := (show R G (.lit (.int .u8 x.toNat)) _ from .clo _ _ this).lit_inv
    rw [← this, Array.getD_eq_getD_getElem?, Array.getElem?_eq_getElem (by rw [hk3.size]; omega)]; rfl
  · rintro e w' ⟨rfl, rfl⟩
    refine ⟨_, G, _, _, rfl, Gh.le.refl G, (hr.more (More.drawn w _)).touch (g := g) h2 rfl (by rw [hgb]; simp [ownB]; omega) (ob' := .gone) (freeze_touch w.drew ⟨g, 0, none⟩ _) trivial, .clo _ _ (.lit _), hk⟩
/-! ### The contracts -/
def isBp (o : Nat) : AV → Bool
  | .lit (.pointer none) => true
  | .ref o' 0 => o' == o
  | _ => false
theorem isBp_bp {o : Nat} {p : AV} (h : isBp o p = true) : ∃ u, p = bp u o := by
  unfold isBp at h
  split at h
  · exact ⟨false, rfl⟩
  · rw [beq_iff_eq] at h; subst h; exact ⟨true, rfl⟩
  · cases h
theorem isBp_f {o : Nat} : isBp o (.lit (.pointer none)) = true := rfl
theorem isBp_u {o : Nat} : isBp o (.ref o 0) = true := by simp [isBp]
def wsK (o : Nat) (l : List UInt8) (σ : List AObj) (k : AV → List AObj → Prop) : Prop := match σ[o]? with
  | some (.box 67 [p, .lit (.slice none 0 0)]) => isBp o p = true ∧ l.length ≤ 100000000 ∧ (l = [] → k (.tup [.lit (.int .i64 0), .lit .nilIface]) (σ.set o (.box 67 [.ref o 0, .lit (.slice none 0 0)]))) ∧
      (l ≠ [] → k (.tup [.lit (.int .i64 l.length), .lit .nilIface]) (σ.set o (.box 67 [.ref o 0, .arr σ.length 0]) ++ [.arr 5 1 (ub l) 0 false]))
  | some (.box 67 [.ref o' 0, .arr o2 ver]) => match σ[o2]? with
    | some (.arr 5 1 xs ver' false) => o' = o ∧ ver' = ver ∧ xs.length ≤ 100000000 ∧ l.length ≤ 100000000 ∧ k (.tup [.lit (.int .i64 l.length), .lit .nilIface]) ((σ.set o (.box 67 [.ref o 0, .arr o2 (ver + 1)])).set o2 (.arr 5 1 (xs ++ ub l) (ver + 1) false))
    | _ => False
  | _ => False
noncomputable def ecn42 : ECon Tryd.prog where
  f := 42
  c := fun args σ k => match args with
    | [.ref o 0, .lit (.string s)] => wsK o (ul s) σ k
    | _ => False
  ok := by
    intro args σ k h
    split at h
    · rename_i o s
      obtain ⟨l, rfl⟩ := bs_ex s
      rw [ul_bs] at h
      unfold wsK at h
      split at h
      · rename_i p hb
        obtain ⟨h1, h2, h3, h4⟩ := h
        obtain ⟨u, rfl⟩ := isBp_bp h1
        rcases l with _ | ⟨c, l⟩
        · exact ws_nil hb (h3 rfl)
        · exact ws_new h2 hb (h4 (by simp))
      · rename_i o' o2 ver hb
        split at h
        · rename_i xs ver' hb2
          obtain ⟨rfl, rfl, h3, h4, h5⟩ := h
          exact ws_old h4 hb hb2 h3 h5
        · exact h.elim
      · exact h.elim
    · exact h.elim
  fk := fk42
theorem ecn42_f : ecn42.f = 42 := rfl
theorem ecn42_c {o : Nat} {l : List UInt8} {σ : List AObj} {k : AV → List AObj → Prop} : ecn42.c [.ref o 0, .lit (.string (bs l))] σ k = wsK o l σ k := by
  show wsK o (ul (bs l)) σ k = _
  rw [ul_bs]
def wbK (o : Nat) (c : Int) (σ : List AObj) (k : AV → List AObj → Prop) : Prop := match σ[o]? with
  | some (.box 67 [p, .lit (.slice none 0 0)]) => isBp o p = true ∧ k (.lit .nilIface) (σ.set o (.box 67 [.ref o 0, .arr σ.length 0]) ++ [.arr 5 1 [.lit (.int .u8 c)] 0 false])
  | some (.box 67 [.ref o' 0, .arr o2 ver]) => match σ[o2]? with
    | some (.arr 5 1 xs ver' false) => o' = o ∧ ver' = ver ∧ xs.length ≤ 100000000 ∧ k (.lit .nilIface) ((σ.set o (.box 67 [.ref o 0, .arr o2 (ver + 1)])).set o2 (.arr 5 1 (xs ++ [.lit (.int .u8 c)]) (ver + 1) false))
    | _ => False
  | _ => False
noncomputable def ecn41 : ECon Tryd.prog where
  f := 41
  c := fun args σ k => match args with
    | [.ref o 0, .lit (.int .u8 c)] => wbK o c σ k
    | _ => False
  ok := by
    intro args σ k h
    split at h
    · unfold wbK at h
      split at h
      · rename_i p hb
        obtain ⟨h1, h2⟩ := h
        obtain ⟨u, rfl⟩ := isBp_bp h1
        exact wb_new hb h2
      · rename_i o' o2 ver hb
        split at h
        · rename_i xs ver' hb2
          obtain ⟨rfl, rfl, h3, h5⟩ := h
          exact wb_old hb hb2 h3 h5
        · exact h.elim
      · exact h.elim
    · exact h.elim
  fk := fk41
theorem ecn41_f : ecn41.f = 41 := rfl
theorem ecn41_c {o : Nat} {c : Int} {σ : List AObj} {k : AV → List AObj → Prop} : ecn41.c [.ref o 0, .lit (.int .u8 c)] σ k = wbK o c σ k := rfl
/-- The text, of a builder whose bytes are known. -/
def stK (l : List UInt8) (o : Nat) (σ : List AObj) (k : AV → List AObj → Prop) : Prop := match σ[o]? with
  | some (.box 67 [_, .lit (.slice none 0 0)]) => l = [] ∧ k (.lit (.string (bs l))) σ
  | some (.box 67 [_, .arr o2 ver]) => match σ[o2]? with
    | some (.arr 5 1 xs ver' false) => xs = ub l ∧ ver' = ver ∧ l ≠ [] ∧ k (.lit (.string (bs l))) (σ.set o2 .gone)
    | _ => False
  | _ => False
def ecn43 (l : List UInt8) : ECon Tryd.prog where
  f := 43
  c := fun args σ k => match args with
    | [.ref o 0] => stK l o σ k
    | _ => False
  ok := by
    intro args σ k h
    split at h
    · unfold stK at h
      split at h
      · rename_i hb
        obtain ⟨rfl, h2⟩ := h
        exact str_nil hb h2
      · rename_i hb
        split at h
        · rename_i hb2
          obtain ⟨rfl, rfl, h3, h5⟩ := h
          exact str_arr hb hb2 h3 h5
        · exact h.elim
      · exact h.elim
    · exact h.elim
  fk := fk43
theorem ecn43_f {l : List UInt8} : (ecn43 l).f = 43 := rfl
theorem ecn43_c {o : Nat} {l : List UInt8} {σ : List AObj} {k : AV → List AObj → Prop} : (ecn43 l).c [.ref o 0] σ k = stK l o σ k := rfl
attribute [go_sem] isBp_f isBp_u wsK wbK stK ecn42_f ecn42_c ecn41_f ecn41_c ecn43_f ecn43_c
end Go.Proofs.YtkkamgblakhmiaaDoor

/- The program's Join. -/
namespace Go.Proofs.YtkkamgblakhmiaaDoor
open Go Go.Fw
set_option maxRecDepth 20000
theorem le_goneB {n0 : Nat} {f : Nat → AV} {σ : List AObj} (o : Nat) {t : TypeId} {cs : List AV} (h : σ[o]? = some (.box t cs)) : Le n0 ⟨f, σ⟩ ⟨f, σ.set o .gone⟩ := by
  intro cx G w N a _ hr hf
  obtain ⟨g, cur, hb, _⟩ := hr.ok o _ h
  exact ⟨G, hr.touch (ob' := .gone) h rfl (by rw [hb]; rfl) (Touch.refl w g) trivial, hf⟩
def bldS (acc : List UInt8) (u : Bool) (v : Nat) : List AObj := if acc = [] then [.box 67 [bp u 0, .lit (.slice none 0 0)]] else [.box 67 [.ref 0 0, .arr 2 v], .gone, .arr 5 1 (ub acc) v false]
/-- The zero values, a builder's as they stand. -/
def zerB (t : TypeId) : AV := if t = 67 then .agg [.lit (.pointer none), .lit (.slice none 0 0)] else zer t
theorem zerB_ok : ∀ t v, zeroT Tryd.prog t = some v → RC (fun _ _ => none) (zerB t) v := by
  intro t v h
  unfold zerB
  split
  · rename_i e
    subst e
    rw [show zeroT Tryd.prog 67 = some (.agg #[(.pointer none), (.slice none 0 0)]) from by kernel_rfl] at h
    cases h
    refine .agg [.lit (.pointer none), .lit (.slice none 0 0)] [.pointer none, .slice none 0 0] rfl ?_ ?_
    · intro i hi
      match i, hi with
      | 0, _ => rfl
      | 1, _ => rfl
    · intro i hi
      match i, hi with
      | 0, _ => exact .lit _
      | 1, _ => exact .lit _
  · exact zer_ok t v h
theorem zerB_67 : zerB 67 = .agg [.lit (.pointer none), .lit (.slice none 0 0)] := rfl
theorem zerB_36 : zerB 36 = zer 36 := rfl
attribute [go_sem] zerB_67 zerB_36
noncomputable def E39 (l : List UInt8) : Env := envJ (P := Tryd.prog) jk zerB (fun _ => false) (fun _ => false) [con24] [ecn41, ecn42, ecn43 l]
theorem E39_ok {l : List UInt8} : EnvOk Tryd.prog (E39 l) := envJOk zerB_ok
theorem bp_t : bp true 0 = .ref 0 0 := rfl
theorem bldS_nil {acc : List UInt8} (h : acc = []) (u : Bool) (v : Nat) : bldS acc u v = [.box 67 [bp u 0, .lit (.slice none 0 0)]] := by rw [bldS, if_pos h]
theorem bldS_ne {acc : List UInt8} (h : acc ≠ []) (u : Bool) (v : Nat) : bldS acc u v = [.box 67 [.ref 0 0, .arr 2 v], .gone, .arr 5 1 (ub acc) v false] := by rw [bldS, if_neg h]
set_option maxHeartbeats 4000000 in
theorem join_pc {l : List Tok} (hl : shortT l) : PC Tryd.prog 26 [.sl false 4 (toks l)] (.lit (.string (bs (joinS l)))) := by
  let E39L := E39 (joinP l l.length)
  have E39L_ok : EnvOk Tryd.prog E39L := E39_ok
  have hl1 := hl.1
  rw [← joinP_S]
  refine pc_ofR E39L_ok mixed (kp26) (rs := [.tmp 2]) Tryd.func26 rfl (by kernel_rfl) (by kernel_rfl) (Nat.le_of_ble_eq_true rfl) ?_
  simp only [initF_cons, initF_nil, Nat.reduceAdd]
  refine t_name fun KF => ?_
  unfold E39L
  simp only [E39L, E39]
  repeat' (first
   | (with_reducible first | refine t_seq fun K => ?_ | refine t_block ?_ | refine t_scope ?_ | refine t_label ?_ | refine t_skip ?_ | refine t_exit ?_ | refine t_ret ?_ | refine t_k ?_ | refine t_gF ?_ | exact kp_nil | exact Kp.refl _ | exact kp_to | refine kp_cons ?_ | refine kp_arr ?_ | refine kp_app ?_ | refine t_p ?_ | refine t_br (fun hc => ?_) fun hc => ?_)
   | ((with_reducible first | refine t_kE (t_openE ?_) | refine t_kD (t_openD ?_) | refine t_kE ?_ | refine t_kD ?_ | refine t_gS ?_ | refine t_kL ?_ | refine t_kLF ?_ ?_ | refine t_region fun K => ?_ | refine t_cond fun A B => ?_ | refine t_draw (by kernel_rfl) fun K => ?_); (try (first | refine t_hideE fun KL => ?_ | refine t_hideD fun KL => ?_)); simp only [go_sem, geff, kp26])
   | ((with_reducible refine kp_skip ?_ ?_); rfl) | simp only [thenQ, blockQ, scopeQ, Nat.reduceEqDiff, reduceIte] | (with_reducible first | refine And.intro ?_ ?_ | intro vr))
  all_goals try (first | (with_reducible assumption) | (intros; (try simp only [Bool.and_eq_true, Bool.or_eq_true, Bool.or_eq_false_iff, Bool.not_eq_true', Bool.not_eq_false', decide_eq_true_eq, decide_eq_false_iff_not, beq_iff_eq, beq_eq_false_iff_ne, bne_iff_ne, bne_eq_false_iff_eq, ne_eq, inI64, List.length_append] at *) <;> omega) | (intros; (with_reducible first | refine impB_ofR ?_ | refine and_ofB ?_ ?_) <;> with_reducible first | assumption | (refine impB_ofR ?_; assumption)) | ((try simp only [Bool.and_eq_true] at vr); simp only [impB, vr, Bool.or_true, Bool.true_or, Bool.and_self, Bool.not_true, Bool.not_false, Bool.and_true]; done))
  refine t_loopF (ι := { p : Nat × Nat // p.1 ≤ l.length }) (fun i => [(8, .lit (.int .i64 i.1.1))]) (fun i => bldS (joinP l i.1.1) (decide (i.1.1 ≠ 0)) i.1.2) (fun i => l.length - i.1.1) ⟨(0, 0), by simp⟩ ?_ ?_
  · simp only [updL_nil, updL_cons, delF_top, delF_upd, Nat.reduceEqDiff, reduceIte]
    refine Le.frameS (by first | rfl | (simp only [go_sem]; try rfl)) ?_
    repeat' (first | exact leF_top _ | exact (fun _ => LeR.refl _) | (with_reducible refine leF_sl ?_ ?_) | (refine leF_upd ?_ ?_))
    all_goals (first | exact LeR.top _ | exact LeR.refl _ | (refine LeR.of_eq ?_; (try simp only [go_sem]); try rfl) | ((try simp only [go_sem]); try rfl))
  rintro ⟨⟨i, ver⟩, hi⟩ K0
  simp only at hi
  have hjl := joinP_len hl i
  rcases Nat.lt_or_ge i l.length with hlt | hge
  · have g5 : decide ((i : Int) < (l.length : Int)) = true := decide_eq_true (by omega)
    have h1 := short_get hl i
    have hJ : joinP l (i + 1) = joinP l i ++ ((if i = 0 then [] else sepS (l.getD (i - 1) ⟨0, [], 0, 0⟩) (l.getD i ⟨0, [], 0, 0⟩)) ++ (l.getD i ⟨0, [], 0, 0⟩).t) := rfl
    cases i with
    | zero =>
      have g6 : (((0 : Nat) : Int) == 0) = true := rfl
      rw [if_pos rfl, List.nil_append] at hJ
      have g7 : decide ((0 : Int) < (l.length : Int)) = true := decide_eq_true (by omega)
      have hB : bldS (joinP l 0) false ver = [.box 67 [.lit (.pointer none), .lit (.slice none 0 0)]] := rfl
      rcases Decidable.em ((l.getD 0 ⟨0, [], 0, 0⟩).t = []) with ht | ht
      · skip
        repeat' (first
         | (with_reducible first | refine t_seq fun K => ?_ | refine t_block ?_ | refine t_scope ?_ | refine t_label ?_ | refine t_skip ?_ | refine t_exit ?_ | refine t_ret ?_ | refine t_k ?_ | refine t_gF ?_ | exact kp_nil | exact Kp.refl _ | exact kp_to | refine kp_cons ?_ | refine kp_arr ?_ | refine kp_app ?_ | refine t_p ?_ | refine t_br (fun hc => ?_) fun hc => ?_)
         | ((with_reducible first | refine t_kE (t_openE ?_) | refine t_kD (t_openD ?_) | refine t_kE ?_ | refine t_kD ?_ | refine t_gS ?_ | refine t_kL ?_ | refine t_kLF ?_ ?_ | refine t_region fun K => ?_ | refine t_cond fun A B => ?_ | refine t_draw (by kernel_rfl) fun K => ?_); (try (first | refine t_hideE fun KL => ?_ | refine t_hideD fun KL => ?_)); simp only [go_sem, geff, kp26, updL_cons, updL_nil, Int.toNat_natCast, g5, g7, g6, tokV, hB, ht, false_imp_iff, true_imp_iff, ne_eq, not_true_eq_false, not_false_eq_true])
         | ((with_reducible refine kp_skip ?_ ?_); rfl) | simp only [thenQ, blockQ, scopeQ, Nat.reduceEqDiff, reduceIte] | (with_reducible first | refine And.intro ?_ ?_ | intro vr))
        all_goals try (first | (with_reducible assumption) | (intros; (try simp only [Bool.and_eq_true, Bool.or_eq_true, Bool.or_eq_false_iff, Bool.not_eq_true', Bool.not_eq_false', decide_eq_true_eq, decide_eq_false_iff_not, beq_iff_eq, beq_eq_false_iff_ne, bne_iff_ne, bne_eq_false_iff_eq, ne_eq, inI64, List.length_append] at *) <;> omega) | (intros; (with_reducible first | refine impB_ofR ?_ | refine and_ofB ?_ ?_) <;> with_reducible first | assumption | (refine impB_ofR ?_; assumption)) | ((try simp only [Bool.and_eq_true] at vr); simp only [impB, vr, Bool.or_true, Bool.true_or, Bool.and_self, Bool.not_true, Bool.not_false, Bool.and_true]; done))
        rw [ht] at hJ
        refine ⟨⟨(1, 0), by simp only; omega⟩, by simp only; omega, ?_⟩
        simp only [Nat.zero_add] at hJ
        rw [bldS_nil (by rw [hJ]; rfl)]
        simp only [updL_nil, updL_cons, delF_top, delF_upd, Nat.reduceEqDiff, reduceIte]
        refine le_backD (by first | rfl | (simp only [go_sem]; try rfl)) (by first | exact Nat.zero_le _ | simp) (by first | rfl | simp [lowO, low_lit, low_sl, low_ref, low_arr]) ?_ ?_
        · repeat' (first | exact low_top | (refine low_upd rfl ?_))
        repeat' (first | exact leF_top _ | exact (fun _ => LeR.refl _) | (with_reducible refine leF_sl ?_ ?_) | (refine leF_upd ?_ ?_))
        all_goals (first | exact LeR.top _ | exact LeR.refl _ | (refine LeR.of_eq ?_; (try simp only [go_sem]); try rfl) | ((try simp only [go_sem]); try rfl))
      · skip
        repeat' (first
         | (with_reducible first | refine t_seq fun K => ?_ | refine t_block ?_ | refine t_scope ?_ | refine t_label ?_ | refine t_skip ?_ | refine t_exit ?_ | refine t_ret ?_ | refine t_k ?_ | refine t_gF ?_ | exact kp_nil | exact Kp.refl _ | exact kp_to | refine kp_cons ?_ | refine kp_arr ?_ | refine kp_app ?_ | refine t_p ?_ | refine t_br (fun hc => ?_) fun hc => ?_)
         | ((with_reducible first | refine t_kE (t_openE ?_) | refine t_kD (t_openD ?_) | refine t_kE ?_ | refine t_kD ?_ | refine t_gS ?_ | refine t_kL ?_ | refine t_kLF ?_ ?_ | refine t_region fun K => ?_ | refine t_cond fun A B => ?_ | refine t_draw (by kernel_rfl) fun K => ?_); (try (first | refine t_hideE fun KL => ?_ | refine t_hideD fun KL => ?_)); simp only [go_sem, geff, kp26, updL_cons, updL_nil, Int.toNat_natCast, g5, g7, g6, tokV, hB, ht, false_imp_iff, true_imp_iff, ne_eq, not_true_eq_false, not_false_eq_true])
         | ((with_reducible refine kp_skip ?_ ?_); rfl) | simp only [thenQ, blockQ, scopeQ, Nat.reduceEqDiff, reduceIte] | (with_reducible first | refine And.intro ?_ ?_ | intro vr))
        all_goals try (first | (with_reducible assumption) | (intros; (try simp only [Bool.and_eq_true, Bool.or_eq_true, Bool.or_eq_false_iff, Bool.not_eq_true', Bool.not_eq_false', decide_eq_true_eq, decide_eq_false_iff_not, beq_iff_eq, beq_eq_false_iff_ne, bne_iff_ne, bne_eq_false_iff_eq, ne_eq, inI64, List.length_append] at *) <;> omega) | (intros; (with_reducible first | refine impB_ofR ?_ | refine and_ofB ?_ ?_) <;> with_reducible first | assumption | (refine impB_ofR ?_; assumption)) | ((try simp only [Bool.and_eq_true] at vr); simp only [impB, vr, Bool.or_true, Bool.true_or, Bool.and_self, Bool.not_true, Bool.not_false, Bool.and_true]; done))
        refine ⟨⟨(1, 0), by simp only; omega⟩, by simp only; omega, ?_⟩
        simp only [Nat.zero_add] at hJ
        rw [bldS_ne (by rw [hJ]; exact ht), hJ]
        refine (le_goneB 1 rfl).trans ?_
        simp only [updL_nil, updL_cons, delF_top, delF_upd, Nat.reduceEqDiff, reduceIte]
        refine Le.frameS (by first | rfl | (simp only [go_sem]; try rfl)) ?_
        repeat' (first | exact leF_top _ | exact (fun _ => LeR.refl _) | (with_reducible refine leF_sl ?_ ?_) | (refine leF_upd ?_ ?_))
        all_goals (first | exact LeR.top _ | exact LeR.refl _ | (refine LeR.of_eq ?_; (try simp only [go_sem]); try rfl) | ((try simp only [go_sem]); try rfl))
    | succ i =>
      have h2 := short_get hl i
      have g6 : (((i + 1 : Nat) : Int) == 0) = false := by rw [beq_eq_false_iff_ne]; omega
      have e1 : (((i + 1 : Nat) : Int) - 1).toNat = i := by omega
      rw [if_neg (by omega), show i + 1 - 1 = i by omega, sepS] at hJ
      cases h7 : decide ((l.getD (i + 1) ⟨0, [], 0, 0⟩).line > (l.getD i ⟨0, [], 0, 0⟩).line) with
      | true =>
        rw [if_pos (by simpa using h7)] at hJ
        rcases Decidable.em (joinP l (i + 1) = []) with ha | ha
        · skip
          repeat' (first
           | (with_reducible first | refine t_seq fun K => ?_ | refine t_block ?_ | refine t_scope ?_ | refine t_label ?_ | refine t_skip ?_ | refine t_exit ?_ | refine t_ret ?_ | refine t_k ?_ | refine t_gF ?_ | exact kp_nil | exact Kp.refl _ | exact kp_to | refine kp_cons ?_ | refine kp_arr ?_ | refine kp_app ?_ | refine t_p ?_ | refine t_br (fun hc => ?_) fun hc => ?_)
           | ((with_reducible first | refine t_kE (t_openE ?_) | refine t_kD (t_openD ?_) | refine t_kE ?_ | refine t_kD ?_ | refine t_gS ?_ | refine t_kL ?_ | refine t_kLF ?_ ?_ | refine t_region fun K => ?_ | refine t_cond fun A B => ?_ | refine t_draw (by kernel_rfl) fun K => ?_); (try (first | refine t_hideE fun KL => ?_ | refine t_hideD fun KL => ?_)); simp only [go_sem, geff, kp26, updL_cons, updL_nil, Int.toNat_natCast, g5, g6, tokV, e1, h7, bldS_nil ha, bp_t, Nat.add_one_ne_zero, ne_eq, not_false_eq_true, not_true_eq_false, false_imp_iff, true_imp_iff, decide_true])
           | ((with_reducible refine kp_skip ?_ ?_); rfl) | simp only [thenQ, blockQ, scopeQ, Nat.reduceEqDiff, reduceIte] | (with_reducible first | refine And.intro ?_ ?_ | intro vr))
          all_goals try (first | (with_reducible assumption) | (intros; (try simp only [Bool.and_eq_true, Bool.or_eq_true, Bool.or_eq_false_iff, Bool.not_eq_true', Bool.not_eq_false', decide_eq_true_eq, decide_eq_false_iff_not, beq_iff_eq, beq_eq_false_iff_ne, bne_iff_ne, bne_eq_false_iff_eq, ne_eq, inI64, ub_len, List.length_append, List.length_cons, List.length_nil] at *) <;> omega) | (intros; (with_reducible first | refine impB_ofR ?_ | refine and_ofB ?_ ?_) <;> with_reducible first | assumption | (refine impB_ofR ?_; assumption)) | ((try simp only [Bool.and_eq_true] at vr); simp only [impB, vr, Bool.or_true, Bool.true_or, Bool.and_self, Bool.not_true, Bool.not_false, Bool.and_true]; done))
          refine ⟨⟨(i + 2, 1), by simp only; omega⟩, by simp only; omega, ?_⟩
          rw [bldS_ne (by rw [hJ]; simp), hJ, ha, List.nil_append, ← ub_app]
          refine (le_goneB 1 rfl).trans ?_
          simp only [updL_nil, updL_cons, delF_top, delF_upd, Nat.reduceEqDiff, reduceIte]
          refine Le.frameS (by first | rfl | (simp only [go_sem]; try rfl)) ?_
          repeat' (first | exact leF_top _ | exact (fun _ => LeR.refl _) | (with_reducible refine leF_sl ?_ ?_) | (refine leF_upd ?_ ?_))
          all_goals (first | exact LeR.top _ | exact LeR.refl _ | (refine LeR.of_eq ?_; (try simp only [go_sem]); try rfl) | ((try simp only [go_sem]); try rfl))
        · skip
          repeat' (first
           | (with_reducible first | refine t_seq fun K => ?_ | refine t_block ?_ | refine t_scope ?_ | refine t_label ?_ | refine t_skip ?_ | refine t_exit ?_ | refine t_ret ?_ | refine t_k ?_ | refine t_gF ?_ | exact kp_nil | exact Kp.refl _ | exact kp_to | refine kp_cons ?_ | refine kp_arr ?_ | refine kp_app ?_ | refine t_p ?_ | refine t_br (fun hc => ?_) fun hc => ?_)
           | ((with_reducible first | refine t_kE (t_openE ?_) | refine t_kD (t_openD ?_) | refine t_kE ?_ | refine t_kD ?_ | refine t_gS ?_ | refine t_kL ?_ | refine t_kLF ?_ ?_ | refine t_region fun K => ?_ | refine t_cond fun A B => ?_ | refine t_draw (by kernel_rfl) fun K => ?_); (try (first | refine t_hideE fun KL => ?_ | refine t_hideD fun KL => ?_)); simp only [go_sem, geff, kp26, updL_cons, updL_nil, Int.toNat_natCast, g5, g6, tokV, e1, h7, bldS_ne ha, bp_t, Nat.add_one_ne_zero, ne_eq, not_false_eq_true, not_true_eq_false, false_imp_iff, true_imp_iff, decide_true])
           | ((with_reducible refine kp_skip ?_ ?_); rfl) | simp only [thenQ, blockQ, scopeQ, Nat.reduceEqDiff, reduceIte] | (with_reducible first | refine And.intro ?_ ?_ | intro vr))
          all_goals try (first | (with_reducible assumption) | (intros; (try simp only [Bool.and_eq_true, Bool.or_eq_true, Bool.or_eq_false_iff, Bool.not_eq_true', Bool.not_eq_false', decide_eq_true_eq, decide_eq_false_iff_not, beq_iff_eq, beq_eq_false_iff_ne, bne_iff_ne, bne_eq_false_iff_eq, ne_eq, inI64, ub_len, List.length_append, List.length_cons, List.length_nil] at *) <;> omega) | (intros; (with_reducible first | refine impB_ofR ?_ | refine and_ofB ?_ ?_) <;> with_reducible first | assumption | (refine impB_ofR ?_; assumption)) | ((try simp only [Bool.and_eq_true] at vr); simp only [impB, vr, Bool.or_true, Bool.true_or, Bool.and_self, Bool.not_true, Bool.not_false, Bool.and_true]; done))
          refine ⟨⟨(i + 2, ver + 2), by simp only; omega⟩, by simp only; omega, ?_⟩
          rw [bldS_ne (by rw [hJ]; simp [ha]), hJ, ← List.append_assoc, ← ub_app, ← ub_app]
          simp only [updL_nil, updL_cons, delF_top, delF_upd, Nat.reduceEqDiff, reduceIte]
          refine le_backD (by first | rfl | (simp only [go_sem]; try rfl)) (by first | exact Nat.zero_le _ | simp) (by first | rfl | simp [lowO, low_lit, low_sl, low_ref, low_arr]) ?_ ?_
          · repeat' (first | exact low_top | (refine low_upd rfl ?_))
          repeat' (first | exact leF_top _ | exact (fun _ => LeR.refl _) | (with_reducible refine leF_sl ?_ ?_) | (refine leF_upd ?_ ?_))
          all_goals (first | exact LeR.top _ | exact LeR.refl _ | (refine LeR.of_eq ?_; (try simp only [go_sem]); try rfl) | ((try simp only [go_sem]); try rfl))
      | false =>
        rw [if_neg (by simpa using h7)] at hJ
        have hln : (l.getD i ⟨0, [], 0, 0⟩).t.length + (l.getD (i + 1) ⟨0, [], 0, 0⟩).t.length ≤ 1000000 := by
          have := short_get hl (i + 1); omega
        cases h8 : apartS (l.getD i ⟨0, [], 0, 0⟩).t (l.getD (i + 1) ⟨0, [], 0, 0⟩).t with
        | true =>
          rw [if_pos h8] at hJ
          rcases Decidable.em (joinP l (i + 1) = []) with ha | ha
          · skip
            repeat' (first
             | (with_reducible first | refine t_seq fun K => ?_ | refine t_block ?_ | refine t_scope ?_ | refine t_label ?_ | refine t_skip ?_ | refine t_exit ?_ | refine t_ret ?_ | refine t_k ?_ | refine t_gF ?_ | exact kp_nil | exact Kp.refl _ | exact kp_to | refine kp_cons ?_ | refine kp_arr ?_ | refine kp_app ?_ | refine t_p ?_ | refine t_br (fun hc => ?_) fun hc => ?_)
             | ((with_reducible first | refine t_kE (t_openE ?_) | refine t_kD (t_openD ?_) | refine t_kE ?_ | refine t_kD ?_ | refine t_gS ?_ | refine t_kL ?_ | refine t_kLF ?_ ?_ | refine t_region fun K => ?_ | refine t_cond fun A B => ?_ | refine t_draw (by kernel_rfl) fun K => ?_); (try (first | refine t_hideE fun KL => ?_ | refine t_hideD fun KL => ?_)); simp only [go_sem, geff, kp26, updL_cons, updL_nil, Int.toNat_natCast, g5, g6, tokV, e1, h7, h8, bldS_nil ha, bp_t, Nat.add_one_ne_zero, ne_eq, not_false_eq_true, not_true_eq_false, false_imp_iff, true_imp_iff, decide_true])
             | ((with_reducible refine kp_skip ?_ ?_); rfl) | simp only [thenQ, blockQ, scopeQ, Nat.reduceEqDiff, reduceIte] | (with_reducible first | refine And.intro ?_ ?_ | intro vr))
            all_goals try (first | (with_reducible assumption) | (intros; (try simp only [Bool.and_eq_true, Bool.or_eq_true, Bool.or_eq_false_iff, Bool.not_eq_true', Bool.not_eq_false', decide_eq_true_eq, decide_eq_false_iff_not, beq_iff_eq, beq_eq_false_iff_ne, bne_iff_ne, bne_eq_false_iff_eq, ne_eq, inI64, ub_len, List.length_append, List.length_cons, List.length_nil] at *) <;> omega) | (intros; (with_reducible first | refine impB_ofR ?_ | refine and_ofB ?_ ?_) <;> with_reducible first | assumption | (refine impB_ofR ?_; assumption)) | ((try simp only [Bool.and_eq_true] at vr); simp only [impB, vr, Bool.or_true, Bool.true_or, Bool.and_self, Bool.not_true, Bool.not_false, Bool.and_true]; done))
            refine ⟨⟨(i + 2, 1), by simp only; omega⟩, by simp only; omega, ?_⟩
            rw [bldS_ne (by rw [hJ]; simp), hJ, ha, List.nil_append, ← ub_app]
            refine (le_goneB 1 rfl).trans ?_
            simp only [updL_nil, updL_cons, delF_top, delF_upd, Nat.reduceEqDiff, reduceIte]
            refine Le.frameS (by first | rfl | (simp only [go_sem]; try rfl)) ?_
            repeat' (first | exact leF_top _ | exact (fun _ => LeR.refl _) | (with_reducible refine leF_sl ?_ ?_) | (refine leF_upd ?_ ?_))
            all_goals (first | exact LeR.top _ | exact LeR.refl _ | (refine LeR.of_eq ?_; (try simp only [go_sem]); try rfl) | ((try simp only [go_sem]); try rfl))
          · skip
            repeat' (first
             | (with_reducible first | refine t_seq fun K => ?_ | refine t_block ?_ | refine t_scope ?_ | refine t_label ?_ | refine t_skip ?_ | refine t_exit ?_ | refine t_ret ?_ | refine t_k ?_ | refine t_gF ?_ | exact kp_nil | exact Kp.refl _ | exact kp_to | refine kp_cons ?_ | refine kp_arr ?_ | refine kp_app ?_ | refine t_p ?_ | refine t_br (fun hc => ?_) fun hc => ?_)
             | ((with_reducible first | refine t_kE (t_openE ?_) | refine t_kD (t_openD ?_) | refine t_kE ?_ | refine t_kD ?_ | refine t_gS ?_ | refine t_kL ?_ | refine t_kLF ?_ ?_ | refine t_region fun K => ?_ | refine t_cond fun A B => ?_ | refine t_draw (by kernel_rfl) fun K => ?_); (try (first | refine t_hideE fun KL => ?_ | refine t_hideD fun KL => ?_)); simp only [go_sem, geff, kp26, updL_cons, updL_nil, Int.toNat_natCast, g5, g6, tokV, e1, h7, h8, bldS_ne ha, bp_t, Nat.add_one_ne_zero, ne_eq, not_false_eq_true, not_true_eq_false, false_imp_iff, true_imp_iff, decide_true])
             | ((with_reducible refine kp_skip ?_ ?_); rfl) | simp only [thenQ, blockQ, scopeQ, Nat.reduceEqDiff, reduceIte] | (with_reducible first | refine And.intro ?_ ?_ | intro vr))
            all_goals try (first | (with_reducible assumption) | (intros; (try simp only [Bool.and_eq_true, Bool.or_eq_true, Bool.or_eq_false_iff, Bool.not_eq_true', Bool.not_eq_false', decide_eq_true_eq, decide_eq_false_iff_not, beq_iff_eq, beq_eq_false_iff_ne, bne_iff_ne, bne_eq_false_iff_eq, ne_eq, inI64, ub_len, List.length_append, List.length_cons, List.length_nil] at *) <;> omega) | (intros; (with_reducible first | refine impB_ofR ?_ | refine and_ofB ?_ ?_) <;> with_reducible first | assumption | (refine impB_ofR ?_; assumption)) | ((try simp only [Bool.and_eq_true] at vr); simp only [impB, vr, Bool.or_true, Bool.true_or, Bool.and_self, Bool.not_true, Bool.not_false, Bool.and_true]; done))
            refine ⟨⟨(i + 2, ver + 2), by simp only; omega⟩, by simp only; omega, ?_⟩
            rw [bldS_ne (by rw [hJ]; simp [ha]), hJ, ← List.append_assoc, ← ub_app, ← ub_app]
            simp only [updL_nil, updL_cons, delF_top, delF_upd, Nat.reduceEqDiff, reduceIte]
            refine le_backD (by first | rfl | (simp only [go_sem]; try rfl)) (by first | exact Nat.zero_le _ | simp) (by first | rfl | simp [lowO, low_lit, low_sl, low_ref, low_arr]) ?_ ?_
            · repeat' (first | exact low_top | (refine low_upd rfl ?_))
            repeat' (first | exact leF_top _ | exact (fun _ => LeR.refl _) | (with_reducible refine leF_sl ?_ ?_) | (refine leF_upd ?_ ?_))
            all_goals (first | exact LeR.top _ | exact LeR.refl _ | (refine LeR.of_eq ?_; (try simp only [go_sem]); try rfl) | ((try simp only [go_sem]); try rfl))
        | false =>
          rw [if_neg (by rw [h8]; simp)] at hJ
          rcases Decidable.em (joinP l (i + 1) = []) with ha | ha
          · rcases Decidable.em ((l.getD (i + 1) ⟨0, [], 0, 0⟩).t = []) with ht | ht
            · rw [ht] at h8
              repeat' (first
               | (with_reducible first | refine t_seq fun K => ?_ | refine t_block ?_ | refine t_scope ?_ | refine t_label ?_ | refine t_skip ?_ | refine t_exit ?_ | refine t_ret ?_ | refine t_k ?_ | refine t_gF ?_ | exact kp_nil | exact Kp.refl _ | exact kp_to | refine kp_cons ?_ | refine kp_arr ?_ | refine kp_app ?_ | refine t_p ?_ | refine t_br (fun hc => ?_) fun hc => ?_)
               | ((with_reducible first | refine t_kE (t_openE ?_) | refine t_kD (t_openD ?_) | refine t_kE ?_ | refine t_kD ?_ | refine t_gS ?_ | refine t_kL ?_ | refine t_kLF ?_ ?_ | refine t_region fun K => ?_ | refine t_cond fun A B => ?_ | refine t_draw (by kernel_rfl) fun K => ?_); (try (first | refine t_hideE fun KL => ?_ | refine t_hideD fun KL => ?_)); simp only [go_sem, geff, kp26, updL_cons, updL_nil, Int.toNat_natCast, g5, g6, tokV, e1, h7, h8, bldS_nil ha, ht, bp_t, Nat.add_one_ne_zero, ne_eq, not_false_eq_true, not_true_eq_false, false_imp_iff, true_imp_iff, decide_true])
               | ((with_reducible refine kp_skip ?_ ?_); rfl) | simp only [thenQ, blockQ, scopeQ, Nat.reduceEqDiff, reduceIte] | (with_reducible first | refine And.intro ?_ ?_ | intro vr))
              all_goals try (first | (with_reducible assumption) | (intros; (try simp only [Bool.and_eq_true, Bool.or_eq_true, Bool.or_eq_false_iff, Bool.not_eq_true', Bool.not_eq_false', decide_eq_true_eq, decide_eq_false_iff_not, beq_iff_eq, beq_eq_false_iff_ne, bne_iff_ne, bne_eq_false_iff_eq, ne_eq, inI64, ub_len, List.length_append, List.length_cons, List.length_nil] at *) <;> omega) | (intros; (with_reducible first | refine impB_ofR ?_ | refine and_ofB ?_ ?_) <;> with_reducible first | assumption | (refine impB_ofR ?_; assumption)) | ((try simp only [Bool.and_eq_true] at vr); simp only [impB, vr, Bool.or_true, Bool.true_or, Bool.and_self, Bool.not_true, Bool.not_false, Bool.and_true]; done))
              refine ⟨⟨(i + 2, 0), by simp only; omega⟩, by simp only; omega, ?_⟩
              rw [bldS_nil (by rw [hJ, ha, ht]; rfl)]
              simp only [updL_nil, updL_cons, delF_top, delF_upd, Nat.reduceEqDiff, reduceIte]
              refine le_backD (by first | rfl | (simp only [go_sem]; try rfl)) (by first | exact Nat.zero_le _ | simp) (by first | rfl | simp [lowO, low_lit, low_sl, low_ref, low_arr]) ?_ ?_
              · repeat' (first | exact low_top | (refine low_upd rfl ?_))
              repeat' (first | exact leF_top _ | exact (fun _ => LeR.refl _) | (with_reducible refine leF_sl ?_ ?_) | (refine leF_upd ?_ ?_))
              all_goals (first | exact LeR.top _ | exact LeR.refl _ | (refine LeR.of_eq ?_; (try simp only [go_sem]); try rfl) | ((try simp only [go_sem]); try rfl))
            · skip
              repeat' (first
               | (with_reducible first | refine t_seq fun K => ?_ | refine t_block ?_ | refine t_scope ?_ | refine t_label ?_ | refine t_skip ?_ | refine t_exit ?_ | refine t_ret ?_ | refine t_k ?_ | refine t_gF ?_ | exact kp_nil | exact Kp.refl _ | exact kp_to | refine kp_cons ?_ | refine kp_arr ?_ | refine kp_app ?_ | refine t_p ?_ | refine t_br (fun hc => ?_) fun hc => ?_)
               | ((with_reducible first | refine t_kE (t_openE ?_) | refine t_kD (t_openD ?_) | refine t_kE ?_ | refine t_kD ?_ | refine t_gS ?_ | refine t_kL ?_ | refine t_kLF ?_ ?_ | refine t_region fun K => ?_ | refine t_cond fun A B => ?_ | refine t_draw (by kernel_rfl) fun K => ?_); (try (first | refine t_hideE fun KL => ?_ | refine t_hideD fun KL => ?_)); simp only [go_sem, geff, kp26, updL_cons, updL_nil, Int.toNat_natCast, g5, g6, tokV, e1, h7, h8, bldS_nil ha, ht, bp_t, Nat.add_one_ne_zero, ne_eq, not_false_eq_true, not_true_eq_false, false_imp_iff, true_imp_iff, decide_true])
               | ((with_reducible refine kp_skip ?_ ?_); rfl) | simp only [thenQ, blockQ, scopeQ, Nat.reduceEqDiff, reduceIte] | (with_reducible first | refine And.intro ?_ ?_ | intro vr))
              all_goals try (first | (with_reducible assumption) | (intros; (try simp only [Bool.and_eq_true, Bool.or_eq_true, Bool.or_eq_false_iff, Bool.not_eq_true', Bool.not_eq_false', decide_eq_true_eq, decide_eq_false_iff_not, beq_iff_eq, beq_eq_false_iff_ne, bne_iff_ne, bne_eq_false_iff_eq, ne_eq, inI64, ub_len, List.length_append, List.length_cons, List.length_nil] at *) <;> omega) | (intros; (with_reducible first | refine impB_ofR ?_ | refine and_ofB ?_ ?_) <;> with_reducible first | assumption | (refine impB_ofR ?_; assumption)) | ((try simp only [Bool.and_eq_true] at vr); simp only [impB, vr, Bool.or_true, Bool.true_or, Bool.and_self, Bool.not_true, Bool.not_false, Bool.and_true]; done))
              refine ⟨⟨(i + 2, 0), by simp only; omega⟩, by simp only; omega, ?_⟩
              rw [bldS_ne (by rw [hJ, ha]; simpa using ht), hJ, ha, List.nil_append, List.nil_append]
              refine (le_goneB 1 rfl).trans ?_
              simp only [updL_nil, updL_cons, delF_top, delF_upd, Nat.reduceEqDiff, reduceIte]
              refine Le.frameS (by first | rfl | (simp only [go_sem]; try rfl)) ?_
              repeat' (first | exact leF_top _ | exact (fun _ => LeR.refl _) | (with_reducible refine leF_sl ?_ ?_) | (refine leF_upd ?_ ?_))
              all_goals (first | exact LeR.top _ | exact LeR.refl _ | (refine LeR.of_eq ?_; (try simp only [go_sem]); try rfl) | ((try simp only [go_sem]); try rfl))
          · skip
            repeat' (first
             | (with_reducible first | refine t_seq fun K => ?_ | refine t_block ?_ | refine t_scope ?_ | refine t_label ?_ | refine t_skip ?_ | refine t_exit ?_ | refine t_ret ?_ | refine t_k ?_ | refine t_gF ?_ | exact kp_nil | exact Kp.refl _ | exact kp_to | refine kp_cons ?_ | refine kp_arr ?_ | refine kp_app ?_ | refine t_p ?_ | refine t_br (fun hc => ?_) fun hc => ?_)
             | ((with_reducible first | refine t_kE (t_openE ?_) | refine t_kD (t_openD ?_) | refine t_kE ?_ | refine t_kD ?_ | refine t_gS ?_ | refine t_kL ?_ | refine t_kLF ?_ ?_ | refine t_region fun K => ?_ | refine t_cond fun A B => ?_ | refine t_draw (by kernel_rfl) fun K => ?_); (try (first | refine t_hideE fun KL => ?_ | refine t_hideD fun KL => ?_)); simp only [go_sem, geff, kp26, updL_cons, updL_nil, Int.toNat_natCast, g5, g6, tokV, e1, h7, h8, bldS_ne ha, bp_t, Nat.add_one_ne_zero, ne_eq, not_false_eq_true, not_true_eq_false, false_imp_iff, true_imp_iff, decide_true])
             | ((with_reducible refine kp_skip ?_ ?_); rfl) | simp only [thenQ, blockQ, scopeQ, Nat.reduceEqDiff, reduceIte] | (with_reducible first | refine And.intro ?_ ?_ | intro vr))
            all_goals try (first | (with_reducible assumption) | (intros; (try simp only [Bool.and_eq_true, Bool.or_eq_true, Bool.or_eq_false_iff, Bool.not_eq_true', Bool.not_eq_false', decide_eq_true_eq, decide_eq_false_iff_not, beq_iff_eq, beq_eq_false_iff_ne, bne_iff_ne, bne_eq_false_iff_eq, ne_eq, inI64, ub_len, List.length_append, List.length_cons, List.length_nil] at *) <;> omega) | (intros; (with_reducible first | refine impB_ofR ?_ | refine and_ofB ?_ ?_) <;> with_reducible first | assumption | (refine impB_ofR ?_; assumption)) | ((try simp only [Bool.and_eq_true] at vr); simp only [impB, vr, Bool.or_true, Bool.true_or, Bool.and_self, Bool.not_true, Bool.not_false, Bool.and_true]; done))
            refine ⟨⟨(i + 2, ver + 1), by simp only; omega⟩, by simp only; omega, ?_⟩
            rw [bldS_ne (by rw [hJ]; simp [ha]), hJ, List.nil_append, ← ub_app]
            simp only [updL_nil, updL_cons, delF_top, delF_upd, Nat.reduceEqDiff, reduceIte]
            refine le_backD (by first | rfl | (simp only [go_sem]; try rfl)) (by first | exact Nat.zero_le _ | simp) (by first | rfl | simp [lowO, low_lit, low_sl, low_ref, low_arr]) ?_ ?_
            · repeat' (first | exact low_top | (refine low_upd rfl ?_))
            repeat' (first | exact leF_top _ | exact (fun _ => LeR.refl _) | (with_reducible refine leF_sl ?_ ?_) | (refine leF_upd ?_ ?_))
            all_goals (first | exact LeR.top _ | exact LeR.refl _ | (refine LeR.of_eq ?_; (try simp only [go_sem]); try rfl) | ((try simp only [go_sem]); try rfl))
  · have g5 : decide ((i : Int) < (l.length : Int)) = false := decide_eq_false (by omega)
    have e : i = l.length := by omega
    subst e
    rcases Decidable.em (joinP l l.length = []) with ha | ha
    · skip
      repeat' (first
       | (with_reducible first | refine t_seq fun K => ?_ | refine t_block ?_ | refine t_scope ?_ | refine t_label ?_ | refine t_skip ?_ | refine t_exit ?_ | refine t_ret ?_ | refine t_k ?_ | refine t_gF ?_ | exact kp_nil | exact Kp.refl _ | exact kp_to | refine kp_cons ?_ | refine kp_arr ?_ | refine kp_app ?_ | refine t_p ?_ | refine t_br (fun hc => ?_) fun hc => ?_)
       | ((with_reducible first | refine t_kE (t_openE ?_) | refine t_kD (t_openD ?_) | refine t_kE ?_ | refine t_kD ?_ | refine t_gS ?_ | refine t_kL ?_ | refine t_kLF ?_ ?_ | refine t_region fun K => ?_ | refine t_cond fun A B => ?_ | refine t_draw (by kernel_rfl) fun K => ?_); (try (first | refine t_hideE fun KL => ?_ | refine t_hideD fun KL => ?_)); simp only [go_sem, geff, kp26, updL_cons, updL_nil, Int.toNat_natCast, g5, bldS_nil ha])
       | ((with_reducible refine kp_skip ?_ ?_); rfl) | simp only [thenQ, blockQ, scopeQ, Nat.reduceEqDiff, reduceIte] | (with_reducible first | refine And.intro ?_ ?_ | intro vr))
      all_goals try (first | (with_reducible assumption) | (intros; (try simp only [Bool.and_eq_true, Bool.or_eq_true, Bool.or_eq_false_iff, Bool.not_eq_true', Bool.not_eq_false', decide_eq_true_eq, decide_eq_false_iff_not, beq_iff_eq, beq_eq_false_iff_ne, bne_iff_ne, bne_eq_false_iff_eq, ne_eq, inI64, List.length_append] at *) <;> omega) | (intros; (with_reducible first | refine impB_ofR ?_ | refine and_ofB ?_ ?_) <;> with_reducible first | assumption | (refine impB_ofR ?_; assumption)) | ((try simp only [Bool.and_eq_true] at vr); simp only [impB, vr, Bool.or_true, Bool.true_or, Bool.and_self, Bool.not_true, Bool.not_false, Bool.and_true]; done))
      all_goals ((first | refine end_retE ?_ | refine end_normE ?_); simp only [fin, go_sem])
      exact LeA.refl _
    · skip
      repeat' (first
       | (with_reducible first | refine t_seq fun K => ?_ | refine t_block ?_ | refine t_scope ?_ | refine t_label ?_ | refine t_skip ?_ | refine t_exit ?_ | refine t_ret ?_ | refine t_k ?_ | refine t_gF ?_ | exact kp_nil | exact Kp.refl _ | exact kp_to | refine kp_cons ?_ | refine kp_arr ?_ | refine kp_app ?_ | refine t_p ?_ | refine t_br (fun hc => ?_) fun hc => ?_)
       | ((with_reducible first | refine t_kE (t_openE ?_) | refine t_kD (t_openD ?_) | refine t_kE ?_ | refine t_kD ?_ | refine t_gS ?_ | refine t_kL ?_ | refine t_kLF ?_ ?_ | refine t_region fun K => ?_ | refine t_cond fun A B => ?_ | refine t_draw (by kernel_rfl) fun K => ?_); (try (first | refine t_hideE fun KL => ?_ | refine t_hideD fun KL => ?_)); simp only [go_sem, geff, kp26, updL_cons, updL_nil, Int.toNat_natCast, g5, bldS_ne ha])
       | ((with_reducible refine kp_skip ?_ ?_); rfl) | simp only [thenQ, blockQ, scopeQ, Nat.reduceEqDiff, reduceIte] | (with_reducible first | refine And.intro ?_ ?_ | intro vr))
      all_goals try (first | (with_reducible assumption) | (intros; (try simp only [Bool.and_eq_true, Bool.or_eq_true, Bool.or_eq_false_iff, Bool.not_eq_true', Bool.not_eq_false', decide_eq_true_eq, decide_eq_false_iff_not, beq_iff_eq, beq_eq_false_iff_ne, bne_iff_ne, bne_eq_false_iff_eq, ne_eq, inI64, List.length_append] at *) <;> omega) | (intros; (with_reducible first | refine impB_ofR ?_ | refine and_ofB ?_ ?_) <;> with_reducible first | assumption | (refine impB_ofR ?_; assumption)) | ((try simp only [Bool.and_eq_true] at vr); simp only [impB, vr, Bool.or_true, Bool.true_or, Bool.and_self, Bool.not_true, Bool.not_false, Bool.and_true]; done))
      all_goals ((first | refine end_retE ?_ | refine end_normE ?_); simp only [fin, go_sem])
      exact LeA.refl _
noncomputable def con26 : PCon Tryd.prog where
  f := 26
  c := fun
    | [xl] => match tkOf xl with | some l => some (shortT l, .lit (.string (bs (joinS l)))) | _ => none
    | _ => none
  ok := by
    intro args p r hc hp
    split at hc
    · split at hc
      · rename_i hl
        cases hc
        exact PC.weak (join_pc hp) ⟨tkOf_le hl, trivial⟩
      · cases hc
    · cases hc
  fk := fk26
theorem con26_f : con26.f = 26 := rfl
theorem con26_c {xl : AV} : con26.c [xl] = match tkOf xl with | some l => some (shortT l, .lit (.string (bs (joinS l)))) | _ => none := rfl
attribute [go_sem] con26_f con26_c
end Go.Proofs.YtkkamgblakhmiaaDoor
