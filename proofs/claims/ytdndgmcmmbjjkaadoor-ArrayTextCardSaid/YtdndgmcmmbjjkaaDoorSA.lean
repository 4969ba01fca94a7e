/- The tables that every world has: powers of ten, and the errors of numbers. -/
import Derived.Test.YtdndgmcmmbjjkaaDoorFwB
import Derived.Test.YtdndgmcmmbjjkaaDoorProg
import Derived.Lib.LaidTab
import Derived.Lib.ItoaNum
import Derived.Lib.Space
import Derived.Shelf.Unicode.IsSpaceAny
import Derived.Test.YtdndgmcmmbjjkaaDoorRows
import Derived.Lib.AtoiAll
import Derived.Lib.ItoaLen
import Derived.Lib.Bytealg

set_option linter.all false

namespace Go.Fw
open Go
theorem var_up {P : Program} {w w' : World} (hb : ∀ k, k < w.heap.size → w'.heap[k]? = w.heap[k]?) {n : String} {cs : Array Value} (h : w.var? P n = some cs) : w'.var? P n = some cs := by
  unfold World.var? at h ⊢
  cases hg : P.globalNamed n with
  | none => rw [hg] at h; cases h
  | some g =>
    rw [hg] at h
    simp only [Option.bind_some] at h ⊢
    have hlt : g < w.heap.size := by
      rcases Nat.lt_or_ge g w.heap.size with h1 | h1
      · exact h1
      · rw [Array.getElem?_eq_none h1] at h; cases h
    rw [hb g hlt]; exact h
structure Tabs (w : World) : Prop where
  pow : Lib.TabIs Go.Proofs.Tryd.prog w "internal/strconv.uint64pow10" .u64 Lib.pow10Tab
  syn : ∃ t p, w.var? Go.Proofs.Tryd.prog "strconv.ErrSyntax" = some #[.iface t p]
  rng : ∃ t p, w.var? Go.Proofs.Tryd.prog "strconv.ErrRange" = some #[.iface t p]
  asc : Lib.TabIs Go.Proofs.Tryd.prog w "strings.asciiSpace" .u8 Lib.asciiSpaceTab
  whi : Lib.WhiteTab 2 w
theorem cell_up {w w' : World} (hb : ∀ k, k < w.heap.size → w'.heap[k]? = w.heap[k]?) {a : Addr} {v : Value} (h : w.cell? a = some v) : w'.cell? a = some v := by
  have hlt : a.block < w.heap.size := by
    rcases Nat.lt_or_ge a.block w.heap.size with h1 | h1
    · exact h1
    · simp [World.cell?, Array.getElem?_eq_none h1] at h
  rw [← h]
  simp only [World.cell?, hb _ hlt]
theorem whi_up {w w' : World} (hb : ∀ k, k < w.heap.size → w'.heap[k]? = w.heap[k]?) {g : Nat} (h : Lib.WhiteTab g w) : Lib.WhiteTab g w' := by
  obtain ⟨T, oT, R, oR, h1, h2, h3, h4, h5⟩ := h
  exact ⟨T, oT, R, oR, cell_up hb h1, cell_up hb h2, cell_up hb h3, cell_up hb h4, fun i hi => cell_up hb (h5 i hi)⟩
instance : TB := ⟨Tabs, fun _ _ hb h => ⟨var_up hb h.pow, h.syn.elim fun t ⟨p, hp⟩ => ⟨t, p, var_up hb hp⟩, h.rng.elim fun t ⟨p, hp⟩ => ⟨t, p, var_up hb hp⟩, var_up hb h.asc, whi_up hb h.whi⟩⟩
end Go.Fw

/- Closed facts on the types of this seat's program, made by program (facts.py). -/
namespace Go.Proofs.YtdndgmcmmbjjkaaDoor
open Go Go.Fw

theorem u2 : Tryd.prog.underlying 2 = some (.int .i64) := by kernel_rfl
theorem sz2 : szT Tryd.prog 2 = 1 := by kernel_rfl
theorem by2 : byT Tryd.prog 2 = 8 := by kernel_rfl
theorem ag2 : aggT Tryd.prog 2 = some false := by kernel_rfl
theorem so2 : structOk Tryd.prog 2 = false := by kernel_rfl
theorem iz2 : (zeroT Tryd.prog 2).isSome = true := by kernel_rfl
theorem zk2 : zOk Tryd.prog 2 = true := by kernel_rfl
theorem iu2 : (Tryd.prog.underlying 2).isSome = true := by kernel_rfl
theorem u3 : Tryd.prog.underlying 3 = some (.int .i64) := by kernel_rfl
theorem sz3 : szT Tryd.prog 3 = 1 := by kernel_rfl
theorem by3 : byT Tryd.prog 3 = 8 := by kernel_rfl
theorem ag3 : aggT Tryd.prog 3 = some false := by kernel_rfl
theorem so3 : structOk Tryd.prog 3 = false := by kernel_rfl
theorem iz3 : (zeroT Tryd.prog 3).isSome = true := by kernel_rfl
theorem zk3 : zOk Tryd.prog 3 = true := by kernel_rfl
theorem iu3 : (Tryd.prog.underlying 3).isSome = true := by kernel_rfl
theorem u4 : Tryd.prog.underlying 4 = some .bool := by kernel_rfl
theorem sz4 : szT Tryd.prog 4 = 1 := by kernel_rfl
theorem by4 : byT Tryd.prog 4 = 1 := by kernel_rfl
theorem ag4 : aggT Tryd.prog 4 = some false := by kernel_rfl
theorem so4 : structOk Tryd.prog 4 = false := by kernel_rfl
theorem iz4 : (zeroT Tryd.prog 4).isSome = true := by kernel_rfl
theorem zk4 : zOk Tryd.prog 4 = true := by kernel_rfl
theorem iu4 : (Tryd.prog.underlying 4).isSome = true := by kernel_rfl
theorem u5 : Tryd.prog.underlying 5 = some (.int .u8) := by kernel_rfl
theorem sz5 : szT Tryd.prog 5 = 1 := by kernel_rfl
theorem by5 : byT Tryd.prog 5 = 1 := by kernel_rfl
theorem ag5 : aggT Tryd.prog 5 = some false := by kernel_rfl
theorem so5 : structOk Tryd.prog 5 = false := by kernel_rfl
theorem iz5 : (zeroT Tryd.prog 5).isSome = true := by kernel_rfl
theorem zk5 : zOk Tryd.prog 5 = true := by kernel_rfl
theorem iu5 : (Tryd.prog.underlying 5).isSome = true := by kernel_rfl
theorem u6 : Tryd.prog.underlying 6 = some (.int .u8) := by kernel_rfl
theorem sz6 : szT Tryd.prog 6 = 1 := by kernel_rfl
theorem by6 : byT Tryd.prog 6 = 1 := by kernel_rfl
theorem ag6 : aggT Tryd.prog 6 = some false := by kernel_rfl
theorem so6 : structOk Tryd.prog 6 = false := by kernel_rfl
theorem iz6 : (zeroT Tryd.prog 6).isSome = true := by kernel_rfl
theorem zk6 : zOk Tryd.prog 6 = true := by kernel_rfl
theorem iu6 : (Tryd.prog.underlying 6).isSome = true := by kernel_rfl
theorem sz7 : szT Tryd.prog 7 = 4 := by kernel_rfl
theorem by7 : byT Tryd.prog 7 = 24 := by kernel_rfl
theorem ag7 : aggT Tryd.prog 7 = some true := by kernel_rfl
theorem so7 : structOk Tryd.prog 7 = true := by kernel_rfl
theorem fl7_0 : fieldT Tryd.prog 7 0 = some (2, 0) := by kernel_rfl
theorem fl7_1 : fieldT Tryd.prog 7 1 = some (3, 1) := by kernel_rfl
theorem fl7_2 : fieldT Tryd.prog 7 2 = some (4, 2) := by kernel_rfl
theorem fl7_3 : fieldT Tryd.prog 7 3 = some (6, 3) := by kernel_rfl
theorem se7 : seqK Tryd.prog 7 = some [0, 0, 2, 0] := by kernel_rfl
theorem iz7 : (zeroT Tryd.prog 7).isSome = true := by kernel_rfl
theorem zk7 : zOk Tryd.prog 7 = true := by kernel_rfl
theorem iu7 : (Tryd.prog.underlying 7).isSome = true := by kernel_rfl
theorem sz8 : szT Tryd.prog 8 = 4 := by kernel_rfl
theorem by8 : byT Tryd.prog 8 = 24 := by kernel_rfl
theorem ag8 : aggT Tryd.prog 8 = some true := by kernel_rfl
theorem so8 : structOk Tryd.prog 8 = true := by kernel_rfl
theorem fl8_0 : fieldT Tryd.prog 8 0 = some (2, 0) := by kernel_rfl
theorem fl8_1 : fieldT Tryd.prog 8 1 = some (3, 1) := by kernel_rfl
theorem fl8_2 : fieldT Tryd.prog 8 2 = some (4, 2) := by kernel_rfl
theorem fl8_3 : fieldT Tryd.prog 8 3 = some (6, 3) := by kernel_rfl
theorem se8 : seqK Tryd.prog 8 = some [0, 0, 2, 0] := by kernel_rfl
theorem iz8 : (zeroT Tryd.prog 8).isSome = true := by kernel_rfl
theorem zk8 : zOk Tryd.prog 8 = true := by kernel_rfl
theorem iu8 : (Tryd.prog.underlying 8).isSome = true := by kernel_rfl
theorem u9 : Tryd.prog.underlying 9 = some .string := by kernel_rfl
theorem sz9 : szT Tryd.prog 9 = 1 := by kernel_rfl
theorem by9 : byT Tryd.prog 9 = 16 := by kernel_rfl
theorem ag9 : aggT Tryd.prog 9 = some false := by kernel_rfl
theorem so9 : structOk Tryd.prog 9 = false := by kernel_rfl
theorem iz9 : (zeroT Tryd.prog 9).isSome = true := by kernel_rfl
theorem zk9 : zOk Tryd.prog 9 = true := by kernel_rfl
theorem iu9 : (Tryd.prog.underlying 9).isSome = true := by kernel_rfl
theorem u10 : Tryd.prog.underlying 10 = some .string := by kernel_rfl
theorem sz10 : szT Tryd.prog 10 = 1 := by kernel_rfl
theorem by10 : byT Tryd.prog 10 = 16 := by kernel_rfl
theorem ag10 : aggT Tryd.prog 10 = some false := by kernel_rfl
theorem so10 : structOk Tryd.prog 10 = false := by kernel_rfl
theorem iz10 : (zeroT Tryd.prog 10).isSome = true := by kernel_rfl
theorem zk10 : zOk Tryd.prog 10 = true := by kernel_rfl
theorem iu10 : (Tryd.prog.underlying 10).isSome = true := by kernel_rfl
theorem u11 : Tryd.prog.underlying 11 = some .string := by kernel_rfl
theorem sz11 : szT Tryd.prog 11 = 1 := by kernel_rfl
theorem by11 : byT Tryd.prog 11 = 16 := by kernel_rfl
theorem ag11 : aggT Tryd.prog 11 = some false := by kernel_rfl
theorem so11 : structOk Tryd.prog 11 = false := by kernel_rfl
theorem iz11 : (zeroT Tryd.prog 11).isSome = true := by kernel_rfl
theorem zk11 : zOk Tryd.prog 11 = true := by kernel_rfl
theorem iu11 : (Tryd.prog.underlying 11).isSome = true := by kernel_rfl
theorem u12 : Tryd.prog.underlying 12 = some (.int .u64) := by kernel_rfl
theorem sz12 : szT Tryd.prog 12 = 1 := by kernel_rfl
theorem by12 : byT Tryd.prog 12 = 8 := by kernel_rfl
theorem ag12 : aggT Tryd.prog 12 = some false := by kernel_rfl
theorem so12 : structOk Tryd.prog 12 = false := by kernel_rfl
theorem iz12 : (zeroT Tryd.prog 12).isSome = true := by kernel_rfl
theorem zk12 : zOk Tryd.prog 12 = true := by kernel_rfl
theorem iu12 : (Tryd.prog.underlying 12).isSome = true := by kernel_rfl
theorem sz13 : szT Tryd.prog 13 = 2 := by kernel_rfl
theorem by13 : byT Tryd.prog 13 = 24 := by kernel_rfl
theorem ag13 : aggT Tryd.prog 13 = some true := by kernel_rfl
theorem so13 : structOk Tryd.prog 13 = true := by kernel_rfl
theorem fl13_0 : fieldT Tryd.prog 13 0 = some (9, 0) := by kernel_rfl
theorem fl13_1 : fieldT Tryd.prog 13 1 = some (12, 1) := by kernel_rfl
theorem iz13 : (zeroT Tryd.prog 13).isSome = true := by kernel_rfl
theorem zk13 : zOk Tryd.prog 13 = true := by kernel_rfl
theorem iu13 : (Tryd.prog.underlying 13).isSome = true := by kernel_rfl
theorem sz14 : szT Tryd.prog 14 = 2 := by kernel_rfl
theorem by14 : byT Tryd.prog 14 = 24 := by kernel_rfl
theorem ag14 : aggT Tryd.prog 14 = some true := by kernel_rfl
theorem so14 : structOk Tryd.prog 14 = true := by kernel_rfl
theorem fl14_0 : fieldT Tryd.prog 14 0 = some (9, 0) := by kernel_rfl
theorem fl14_1 : fieldT Tryd.prog 14 1 = some (12, 1) := by kernel_rfl
theorem iz14 : (zeroT Tryd.prog 14).isSome = true := by kernel_rfl
theorem zk14 : zOk Tryd.prog 14 = true := by kernel_rfl
theorem iu14 : (Tryd.prog.underlying 14).isSome = true := by kernel_rfl
theorem u15 : Tryd.prog.underlying 15 = some (.pointer 132) := by kernel_rfl
theorem sz15 : szT Tryd.prog 15 = 1 := by kernel_rfl
theorem by15 : byT Tryd.prog 15 = 8 := by kernel_rfl
theorem ag15 : aggT Tryd.prog 15 = some false := by kernel_rfl
theorem so15 : structOk Tryd.prog 15 = false := by kernel_rfl
theorem iz15 : (zeroT Tryd.prog 15).isSome = true := by kernel_rfl
theorem zk15 : zOk Tryd.prog 15 = true := by kernel_rfl
theorem iu15 : (Tryd.prog.underlying 15).isSome = true := by kernel_rfl
theorem u16 : Tryd.prog.underlying 16 = some (.pointer 135) := by kernel_rfl
theorem sz16 : szT Tryd.prog 16 = 1 := by kernel_rfl
theorem by16 : byT Tryd.prog 16 = 8 := by kernel_rfl
theorem ag16 : aggT Tryd.prog 16 = some false := by kernel_rfl
theorem so16 : structOk Tryd.prog 16 = false := by kernel_rfl
theorem iz16 : (zeroT Tryd.prog 16).isSome = true := by kernel_rfl
theorem zk16 : zOk Tryd.prog 16 = true := by kernel_rfl
theorem iu16 : (Tryd.prog.underlying 16).isSome = true := by kernel_rfl
theorem u17 : Tryd.prog.underlying 17 = some (.pointer 143) := by kernel_rfl
theorem sz17 : szT Tryd.prog 17 = 1 := by kernel_rfl
theorem by17 : byT Tryd.prog 17 = 8 := by kernel_rfl
theorem ag17 : aggT Tryd.prog 17 = some false := by kernel_rfl
theorem so17 : structOk Tryd.prog 17 = false := by kernel_rfl
theorem iz17 : (zeroT Tryd.prog 17).isSome = true := by kernel_rfl
theorem zk17 : zOk Tryd.prog 17 = true := by kernel_rfl
theorem iu17 : (Tryd.prog.underlying 17).isSome = true := by kernel_rfl
theorem sz18 : szT Tryd.prog 18 = 1 := by kernel_rfl
theorem by18 : byT Tryd.prog 18 = 8 := by kernel_rfl
theorem ag18 : aggT Tryd.prog 18 = some true := by kernel_rfl
theorem so18 : structOk Tryd.prog 18 = true := by kernel_rfl
theorem fl18_0 : fieldT Tryd.prog 18 0 = some (17, 0) := by kernel_rfl
theorem iz18 : (zeroT Tryd.prog 18).isSome = true := by kernel_rfl
theorem zk18 : zOk Tryd.prog 18 = true := by kernel_rfl
theorem iu18 : (Tryd.prog.underlying 18).isSome = true := by kernel_rfl
theorem sz19 : szT Tryd.prog 19 = 1 := by kernel_rfl
theorem by19 : byT Tryd.prog 19 = 8 := by kernel_rfl
theorem ag19 : aggT Tryd.prog 19 = some true := by kernel_rfl
theorem so19 : structOk Tryd.prog 19 = true := by kernel_rfl
theorem fl19_0 : fieldT Tryd.prog 19 0 = some (17, 0) := by kernel_rfl
theorem iz19 : (zeroT Tryd.prog 19).isSome = true := by kernel_rfl
theorem zk19 : zOk Tryd.prog 19 = true := by kernel_rfl
theorem iu19 : (Tryd.prog.underlying 19).isSome = true := by kernel_rfl
theorem u21 : Tryd.prog.underlying 21 = some (.int .i32) := by kernel_rfl
theorem sz21 : szT Tryd.prog 21 = 1 := by kernel_rfl
theorem by21 : byT Tryd.prog 21 = 4 := by kernel_rfl
theorem ag21 : aggT Tryd.prog 21 = some false := by kernel_rfl
theorem so21 : structOk Tryd.prog 21 = false := by kernel_rfl
theorem iz21 : (zeroT Tryd.prog 21).isSome = true := by kernel_rfl
theorem zk21 : zOk Tryd.prog 21 = true := by kernel_rfl
theorem iu21 : (Tryd.prog.underlying 21).isSome = true := by kernel_rfl
theorem u22 : Tryd.prog.underlying 22 = some (.slice 3) := by kernel_rfl
theorem sz22 : szT Tryd.prog 22 = 1 := by kernel_rfl
theorem by22 : byT Tryd.prog 22 = 24 := by kernel_rfl
theorem ag22 : aggT Tryd.prog 22 = some false := by kernel_rfl
theorem so22 : structOk Tryd.prog 22 = false := by kernel_rfl
theorem iz22 : (zeroT Tryd.prog 22).isSome = true := by kernel_rfl
theorem zk22 : zOk Tryd.prog 22 = true := by kernel_rfl
theorem iu22 : (Tryd.prog.underlying 22).isSome = true := by kernel_rfl
theorem ap22 : appT Tryd.prog #[22, 22] = some 3 := by kernel_rfl
theorem sz23 : szT Tryd.prog 23 = 3 := by kernel_rfl
theorem by23 : byT Tryd.prog 23 = 64 := by kernel_rfl
theorem ag23 : aggT Tryd.prog 23 = some true := by kernel_rfl
theorem so23 : structOk Tryd.prog 23 = true := by kernel_rfl
theorem fl23_0 : fieldT Tryd.prog 23 0 = some (9, 0) := by kernel_rfl
theorem fl23_1 : fieldT Tryd.prog 23 1 = some (22, 1) := by kernel_rfl
theorem fl23_2 : fieldT Tryd.prog 23 2 = some (22, 2) := by kernel_rfl
theorem iz23 : (zeroT Tryd.prog 23).isSome = true := by kernel_rfl
theorem zk23 : zOk Tryd.prog 23 = true := by kernel_rfl
theorem iu23 : (Tryd.prog.underlying 23).isSome = true := by kernel_rfl
theorem sz24 : szT Tryd.prog 24 = 3 := by kernel_rfl
theorem by24 : byT Tryd.prog 24 = 64 := by kernel_rfl
theorem ag24 : aggT Tryd.prog 24 = some true := by kernel_rfl
theorem so24 : structOk Tryd.prog 24 = true := by kernel_rfl
theorem fl24_0 : fieldT Tryd.prog 24 0 = some (9, 0) := by kernel_rfl
theorem fl24_1 : fieldT Tryd.prog 24 1 = some (22, 1) := by kernel_rfl
theorem fl24_2 : fieldT Tryd.prog 24 2 = some (22, 2) := by kernel_rfl
theorem iz24 : (zeroT Tryd.prog 24).isSome = true := by kernel_rfl
theorem zk24 : zOk Tryd.prog 24 = true := by kernel_rfl
theorem iu24 : (Tryd.prog.underlying 24).isSome = true := by kernel_rfl
theorem u27 : Tryd.prog.underlying 27 = some (.int .i64) := by kernel_rfl
theorem sz27 : szT Tryd.prog 27 = 1 := by kernel_rfl
theorem by27 : byT Tryd.prog 27 = 8 := by kernel_rfl
theorem ag27 : aggT Tryd.prog 27 = some false := by kernel_rfl
theorem so27 : structOk Tryd.prog 27 = false := by kernel_rfl
theorem iz27 : (zeroT Tryd.prog 27).isSome = true := by kernel_rfl
theorem zk27 : zOk Tryd.prog 27 = true := by kernel_rfl
theorem iu27 : (Tryd.prog.underlying 27).isSome = true := by kernel_rfl
theorem u38 : Tryd.prog.underlying 38 = some (.slice 5) := by kernel_rfl
theorem sz38 : szT Tryd.prog 38 = 1 := by kernel_rfl
theorem by38 : byT Tryd.prog 38 = 24 := by kernel_rfl
theorem ag38 : aggT Tryd.prog 38 = some false := by kernel_rfl
theorem so38 : structOk Tryd.prog 38 = false := by kernel_rfl
theorem iz38 : (zeroT Tryd.prog 38).isSome = true := by kernel_rfl
theorem zk38 : zOk Tryd.prog 38 = true := by kernel_rfl
theorem iu38 : (Tryd.prog.underlying 38).isSome = true := by kernel_rfl
theorem ap38 : appT Tryd.prog #[38, 38] = some 5 := by kernel_rfl
theorem aps38 : appT Tryd.prog #[38, 9] = some 5 := by kernel_rfl
theorem u49 : Tryd.prog.underlying 49 = some (.array 2 22) := by kernel_rfl
theorem sz49 : szT Tryd.prog 49 = 2 := by kernel_rfl
theorem by49 : byT Tryd.prog 49 = 48 := by kernel_rfl
theorem ag49 : aggT Tryd.prog 49 = some true := by kernel_rfl
theorem so49 : structOk Tryd.prog 49 = false := by kernel_rfl
theorem iz49 : (zeroT Tryd.prog 49).isSome = true := by kernel_rfl
theorem zk49 : zOk Tryd.prog 49 = true := by kernel_rfl
theorem iu49 : (Tryd.prog.underlying 49).isSome = true := by kernel_rfl
theorem u55 : Tryd.prog.underlying 55 = some (.slice 9) := by kernel_rfl
theorem sz55 : szT Tryd.prog 55 = 1 := by kernel_rfl
theorem by55 : byT Tryd.prog 55 = 24 := by kernel_rfl
theorem ag55 : aggT Tryd.prog 55 = some false := by kernel_rfl
theorem so55 : structOk Tryd.prog 55 = false := by kernel_rfl
theorem iz55 : (zeroT Tryd.prog 55).isSome = true := by kernel_rfl
theorem zk55 : zOk Tryd.prog 55 = true := by kernel_rfl
theorem iu55 : (Tryd.prog.underlying 55).isSome = true := by kernel_rfl
theorem ap55 : appT Tryd.prog #[55, 55] = some 9 := by kernel_rfl
theorem u65 : Tryd.prog.underlying 65 = some (.int .u64) := by kernel_rfl
theorem sz65 : szT Tryd.prog 65 = 1 := by kernel_rfl
theorem by65 : byT Tryd.prog 65 = 8 := by kernel_rfl
theorem ag65 : aggT Tryd.prog 65 = some false := by kernel_rfl
theorem so65 : structOk Tryd.prog 65 = false := by kernel_rfl
theorem iz65 : (zeroT Tryd.prog 65).isSome = true := by kernel_rfl
theorem zk65 : zOk Tryd.prog 65 = true := by kernel_rfl
theorem iu65 : (Tryd.prog.underlying 65).isSome = true := by kernel_rfl
theorem u75 : Tryd.prog.underlying 75 = some (.array 24 5) := by kernel_rfl
theorem sz75 : szT Tryd.prog 75 = 24 := by kernel_rfl
theorem by75 : byT Tryd.prog 75 = 24 := by kernel_rfl
theorem ag75 : aggT Tryd.prog 75 = some true := by kernel_rfl
theorem so75 : structOk Tryd.prog 75 = false := by kernel_rfl
theorem iz75 : (zeroT Tryd.prog 75).isSome = true := by kernel_rfl
theorem zk75 : zOk Tryd.prog 75 = true := by kernel_rfl
theorem iu75 : (Tryd.prog.underlying 75).isSome = true := by kernel_rfl
theorem u82 : Tryd.prog.underlying 82 = some (.int .u64) := by kernel_rfl
theorem sz82 : szT Tryd.prog 82 = 1 := by kernel_rfl
theorem by82 : byT Tryd.prog 82 = 8 := by kernel_rfl
theorem ag82 : aggT Tryd.prog 82 = some false := by kernel_rfl
theorem so82 : structOk Tryd.prog 82 = false := by kernel_rfl
theorem iz82 : (zeroT Tryd.prog 82).isSome = true := by kernel_rfl
theorem zk82 : zOk Tryd.prog 82 = true := by kernel_rfl
theorem iu82 : (Tryd.prog.underlying 82).isSome = true := by kernel_rfl
theorem u83 : Tryd.prog.underlying 83 = some (.slice 85) := by kernel_rfl
theorem sz83 : szT Tryd.prog 83 = 1 := by kernel_rfl
theorem by83 : byT Tryd.prog 83 = 24 := by kernel_rfl
theorem ag83 : aggT Tryd.prog 83 = some false := by kernel_rfl
theorem so83 : structOk Tryd.prog 83 = false := by kernel_rfl
theorem iz83 : (zeroT Tryd.prog 83).isSome = true := by kernel_rfl
theorem zk83 : zOk Tryd.prog 83 = true := by kernel_rfl
theorem iu83 : (Tryd.prog.underlying 83).isSome = true := by kernel_rfl
theorem ap83 : appT Tryd.prog #[83, 83] = some 85 := by kernel_rfl
theorem sz84 : szT Tryd.prog 84 = 2 := by kernel_rfl
theorem by84 : byT Tryd.prog 84 = 16 := by kernel_rfl
theorem ag84 : aggT Tryd.prog 84 = some true := by kernel_rfl
theorem so84 : structOk Tryd.prog 84 = true := by kernel_rfl
theorem fl84_0 : fieldT Tryd.prog 84 0 = some (3, 0) := by kernel_rfl
theorem fl84_1 : fieldT Tryd.prog 84 1 = some (3, 1) := by kernel_rfl
theorem se84 : seqK Tryd.prog 84 = some [0, 0] := by kernel_rfl
theorem iz84 : (zeroT Tryd.prog 84).isSome = true := by kernel_rfl
theorem zk84 : zOk Tryd.prog 84 = true := by kernel_rfl
theorem iu84 : (Tryd.prog.underlying 84).isSome = true := by kernel_rfl
theorem sz85 : szT Tryd.prog 85 = 2 := by kernel_rfl
theorem by85 : byT Tryd.prog 85 = 16 := by kernel_rfl
theorem ag85 : aggT Tryd.prog 85 = some true := by kernel_rfl
theorem so85 : structOk Tryd.prog 85 = true := by kernel_rfl
theorem fl85_0 : fieldT Tryd.prog 85 0 = some (3, 0) := by kernel_rfl
theorem fl85_1 : fieldT Tryd.prog 85 1 = some (3, 1) := by kernel_rfl
theorem se85 : seqK Tryd.prog 85 = some [0, 0] := by kernel_rfl
theorem iz85 : (zeroT Tryd.prog 85).isSome = true := by kernel_rfl
theorem zk85 : zOk Tryd.prog 85 = true := by kernel_rfl
theorem iu85 : (Tryd.prog.underlying 85).isSome = true := by kernel_rfl
theorem u86 : Tryd.prog.underlying 86 = some (.int .u32) := by kernel_rfl
theorem sz86 : szT Tryd.prog 86 = 1 := by kernel_rfl
theorem by86 : byT Tryd.prog 86 = 4 := by kernel_rfl
theorem ag86 : aggT Tryd.prog 86 = some false := by kernel_rfl
theorem so86 : structOk Tryd.prog 86 = false := by kernel_rfl
theorem iz86 : (zeroT Tryd.prog 86).isSome = true := by kernel_rfl
theorem zk86 : zOk Tryd.prog 86 = true := by kernel_rfl
theorem iu86 : (Tryd.prog.underlying 86).isSome = true := by kernel_rfl
theorem u88 : Tryd.prog.underlying 88 = some (.pointer 104) := by kernel_rfl
theorem sz88 : szT Tryd.prog 88 = 1 := by kernel_rfl
theorem by88 : byT Tryd.prog 88 = 8 := by kernel_rfl
theorem ag88 : aggT Tryd.prog 88 = some false := by kernel_rfl
theorem so88 : structOk Tryd.prog 88 = false := by kernel_rfl
theorem iz88 : (zeroT Tryd.prog 88).isSome = true := by kernel_rfl
theorem zk88 : zOk Tryd.prog 88 = true := by kernel_rfl
theorem iu88 : (Tryd.prog.underlying 88).isSome = true := by kernel_rfl
theorem u89 : Tryd.prog.underlying 89 = some (.int .i64) := by kernel_rfl
theorem sz89 : szT Tryd.prog 89 = 1 := by kernel_rfl
theorem by89 : byT Tryd.prog 89 = 8 := by kernel_rfl
theorem ag89 : aggT Tryd.prog 89 = some false := by kernel_rfl
theorem so89 : structOk Tryd.prog 89 = false := by kernel_rfl
theorem iz89 : (zeroT Tryd.prog 89).isSome = true := by kernel_rfl
theorem zk89 : zOk Tryd.prog 89 = true := by kernel_rfl
theorem iu89 : (Tryd.prog.underlying 89).isSome = true := by kernel_rfl
theorem u92 : Tryd.prog.underlying 92 = some (.pointer 116) := by kernel_rfl
theorem sz92 : szT Tryd.prog 92 = 1 := by kernel_rfl
theorem by92 : byT Tryd.prog 92 = 8 := by kernel_rfl
theorem ag92 : aggT Tryd.prog 92 = some false := by kernel_rfl
theorem so92 : structOk Tryd.prog 92 = false := by kernel_rfl
theorem iz92 : (zeroT Tryd.prog 92).isSome = true := by kernel_rfl
theorem zk92 : zOk Tryd.prog 92 = true := by kernel_rfl
theorem iu92 : (Tryd.prog.underlying 92).isSome = true := by kernel_rfl
theorem u96 : Tryd.prog.underlying 96 = some (.array 20 65) := by kernel_rfl
theorem sz96 : szT Tryd.prog 96 = 20 := by kernel_rfl
theorem by96 : byT Tryd.prog 96 = 160 := by kernel_rfl
theorem ag96 : aggT Tryd.prog 96 = some true := by kernel_rfl
theorem so96 : structOk Tryd.prog 96 = false := by kernel_rfl
theorem iz96 : (zeroT Tryd.prog 96).isSome = true := by kernel_rfl
theorem zk96 : zOk Tryd.prog 96 = true := by kernel_rfl
theorem iu96 : (Tryd.prog.underlying 96).isSome = true := by kernel_rfl
theorem u97 : Tryd.prog.underlying 97 = some (.array 65 5) := by kernel_rfl
theorem sz97 : szT Tryd.prog 97 = 65 := by kernel_rfl
theorem by97 : byT Tryd.prog 97 = 65 := by kernel_rfl
theorem ag97 : aggT Tryd.prog 97 = some true := by kernel_rfl
theorem so97 : structOk Tryd.prog 97 = false := by kernel_rfl
theorem iz97 : (zeroT Tryd.prog 97).isSome = true := by kernel_rfl
theorem zk97 : zOk Tryd.prog 97 = true := by kernel_rfl
theorem iu97 : (Tryd.prog.underlying 97).isSome = true := by kernel_rfl
theorem u101 : Tryd.prog.underlying 101 = some (.slice 107) := by kernel_rfl
theorem sz101 : szT Tryd.prog 101 = 1 := by kernel_rfl
theorem by101 : byT Tryd.prog 101 = 24 := by kernel_rfl
theorem ag101 : aggT Tryd.prog 101 = some false := by kernel_rfl
theorem so101 : structOk Tryd.prog 101 = false := by kernel_rfl
theorem iz101 : (zeroT Tryd.prog 101).isSome = true := by kernel_rfl
theorem zk101 : zOk Tryd.prog 101 = true := by kernel_rfl
theorem iu101 : (Tryd.prog.underlying 101).isSome = true := by kernel_rfl
theorem ap101 : appT Tryd.prog #[101, 101] = some 107 := by kernel_rfl
theorem u102 : Tryd.prog.underlying 102 = some (.slice 110) := by kernel_rfl
theorem sz102 : szT Tryd.prog 102 = 1 := by kernel_rfl
theorem by102 : byT Tryd.prog 102 = 24 := by kernel_rfl
theorem ag102 : aggT Tryd.prog 102 = some false := by kernel_rfl
theorem so102 : structOk Tryd.prog 102 = false := by kernel_rfl
theorem iz102 : (zeroT Tryd.prog 102).isSome = true := by kernel_rfl
theorem zk102 : zOk Tryd.prog 102 = true := by kernel_rfl
theorem iu102 : (Tryd.prog.underlying 102).isSome = true := by kernel_rfl
theorem ap102 : appT Tryd.prog #[102, 102] = some 110 := by kernel_rfl
theorem sz103 : szT Tryd.prog 103 = 3 := by kernel_rfl
theorem by103 : byT Tryd.prog 103 = 56 := by kernel_rfl
theorem ag103 : aggT Tryd.prog 103 = some true := by kernel_rfl
theorem so103 : structOk Tryd.prog 103 = true := by kernel_rfl
theorem fl103_0 : fieldT Tryd.prog 103 0 = some (101, 0) := by kernel_rfl
theorem fl103_1 : fieldT Tryd.prog 103 1 = some (102, 1) := by kernel_rfl
theorem fl103_2 : fieldT Tryd.prog 103 2 = some (3, 2) := by kernel_rfl
theorem iz103 : (zeroT Tryd.prog 103).isSome = true := by kernel_rfl
theorem zk103 : zOk Tryd.prog 103 = true := by kernel_rfl
theorem iu103 : (Tryd.prog.underlying 103).isSome = true := by kernel_rfl
theorem sz104 : szT Tryd.prog 104 = 3 := by kernel_rfl
theorem by104 : byT Tryd.prog 104 = 56 := by kernel_rfl
theorem ag104 : aggT Tryd.prog 104 = some true := by kernel_rfl
theorem so104 : structOk Tryd.prog 104 = true := by kernel_rfl
theorem fl104_0 : fieldT Tryd.prog 104 0 = some (101, 0) := by kernel_rfl
theorem fl104_1 : fieldT Tryd.prog 104 1 = some (102, 1) := by kernel_rfl
theorem fl104_2 : fieldT Tryd.prog 104 2 = some (3, 2) := by kernel_rfl
theorem iz104 : (zeroT Tryd.prog 104).isSome = true := by kernel_rfl
theorem zk104 : zOk Tryd.prog 104 = true := by kernel_rfl
theorem iu104 : (Tryd.prog.underlying 104).isSome = true := by kernel_rfl
theorem u105 : Tryd.prog.underlying 105 = some (.int .u16) := by kernel_rfl
theorem sz105 : szT Tryd.prog 105 = 1 := by kernel_rfl
theorem by105 : byT Tryd.prog 105 = 2 := by kernel_rfl
theorem ag105 : aggT Tryd.prog 105 = some false := by kernel_rfl
theorem so105 : structOk Tryd.prog 105 = false := by kernel_rfl
theorem iz105 : (zeroT Tryd.prog 105).isSome = true := by kernel_rfl
theorem zk105 : zOk Tryd.prog 105 = true := by kernel_rfl
theorem iu105 : (Tryd.prog.underlying 105).isSome = true := by kernel_rfl
theorem sz106 : szT Tryd.prog 106 = 3 := by kernel_rfl
theorem by106 : byT Tryd.prog 106 = 6 := by kernel_rfl
theorem ag106 : aggT Tryd.prog 106 = some true := by kernel_rfl
theorem so106 : structOk Tryd.prog 106 = true := by kernel_rfl
theorem fl106_0 : fieldT Tryd.prog 106 0 = some (105, 0) := by kernel_rfl
theorem fl106_1 : fieldT Tryd.prog 106 1 = some (105, 1) := by kernel_rfl
theorem fl106_2 : fieldT Tryd.prog 106 2 = some (105, 2) := by kernel_rfl
theorem se106 : seqK Tryd.prog 106 = some [0, 0, 0] := by kernel_rfl
theorem iz106 : (zeroT Tryd.prog 106).isSome = true := by kernel_rfl
theorem zk106 : zOk Tryd.prog 106 = true := by kernel_rfl
theorem iu106 : (Tryd.prog.underlying 106).isSome = true := by kernel_rfl
theorem sz107 : szT Tryd.prog 107 = 3 := by kernel_rfl
theorem by107 : byT Tryd.prog 107 = 6 := by kernel_rfl
theorem ag107 : aggT Tryd.prog 107 = some true := by kernel_rfl
theorem so107 : structOk Tryd.prog 107 = true := by kernel_rfl
theorem fl107_0 : fieldT Tryd.prog 107 0 = some (105, 0) := by kernel_rfl
theorem fl107_1 : fieldT Tryd.prog 107 1 = some (105, 1) := by kernel_rfl
theorem fl107_2 : fieldT Tryd.prog 107 2 = some (105, 2) := by kernel_rfl
theorem se107 : seqK Tryd.prog 107 = some [0, 0, 0] := by kernel_rfl
theorem iz107 : (zeroT Tryd.prog 107).isSome = true := by kernel_rfl
theorem zk107 : zOk Tryd.prog 107 = true := by kernel_rfl
theorem iu107 : (Tryd.prog.underlying 107).isSome = true := by kernel_rfl
theorem sz109 : szT Tryd.prog 109 = 3 := by kernel_rfl
theorem by109 : byT Tryd.prog 109 = 12 := by kernel_rfl
theorem ag109 : aggT Tryd.prog 109 = some true := by kernel_rfl
theorem so109 : structOk Tryd.prog 109 = true := by kernel_rfl
theorem fl109_0 : fieldT Tryd.prog 109 0 = some (86, 0) := by kernel_rfl
theorem fl109_1 : fieldT Tryd.prog 109 1 = some (86, 1) := by kernel_rfl
theorem fl109_2 : fieldT Tryd.prog 109 2 = some (86, 2) := by kernel_rfl
theorem se109 : seqK Tryd.prog 109 = some [0, 0, 0] := by kernel_rfl
theorem iz109 : (zeroT Tryd.prog 109).isSome = true := by kernel_rfl
theorem zk109 : zOk Tryd.prog 109 = true := by kernel_rfl
theorem iu109 : (Tryd.prog.underlying 109).isSome = true := by kernel_rfl
theorem sz110 : szT Tryd.prog 110 = 3 := by kernel_rfl
theorem by110 : byT Tryd.prog 110 = 12 := by kernel_rfl
theorem ag110 : aggT Tryd.prog 110 = some true := by kernel_rfl
theorem so110 : structOk Tryd.prog 110 = true := by kernel_rfl
theorem fl110_0 : fieldT Tryd.prog 110 0 = some (86, 0) := by kernel_rfl
theorem fl110_1 : fieldT Tryd.prog 110 1 = some (86, 1) := by kernel_rfl
theorem fl110_2 : fieldT Tryd.prog 110 2 = some (86, 2) := by kernel_rfl
theorem se110 : seqK Tryd.prog 110 = some [0, 0, 0] := by kernel_rfl
theorem iz110 : (zeroT Tryd.prog 110).isSome = true := by kernel_rfl
theorem zk110 : zOk Tryd.prog 110 = true := by kernel_rfl
theorem iu110 : (Tryd.prog.underlying 110).isSome = true := by kernel_rfl
theorem sz115 : szT Tryd.prog 115 = 3 := by kernel_rfl
theorem by115 : byT Tryd.prog 115 = 48 := by kernel_rfl
theorem ag115 : aggT Tryd.prog 115 = some true := by kernel_rfl
theorem so115 : structOk Tryd.prog 115 = true := by kernel_rfl
theorem fl115_0 : fieldT Tryd.prog 115 0 = some (9, 0) := by kernel_rfl
theorem fl115_1 : fieldT Tryd.prog 115 1 = some (9, 1) := by kernel_rfl
theorem fl115_2 : fieldT Tryd.prog 115 2 = some (58, 2) := by kernel_rfl
theorem iz115 : (zeroT Tryd.prog 115).isSome = true := by kernel_rfl
theorem zk115 : zOk Tryd.prog 115 = true := by kernel_rfl
theorem iu115 : (Tryd.prog.underlying 115).isSome = true := by kernel_rfl
theorem sz116 : szT Tryd.prog 116 = 3 := by kernel_rfl
theorem by116 : byT Tryd.prog 116 = 48 := by kernel_rfl
theorem ag116 : aggT Tryd.prog 116 = some true := by kernel_rfl
theorem so116 : structOk Tryd.prog 116 = true := by kernel_rfl
theorem fl116_0 : fieldT Tryd.prog 116 0 = some (9, 0) := by kernel_rfl
theorem fl116_1 : fieldT Tryd.prog 116 1 = some (9, 1) := by kernel_rfl
theorem fl116_2 : fieldT Tryd.prog 116 2 = some (58, 2) := by kernel_rfl
theorem iz116 : (zeroT Tryd.prog 116).isSome = true := by kernel_rfl
theorem zk116 : zOk Tryd.prog 116 = true := by kernel_rfl
theorem iu116 : (Tryd.prog.underlying 116).isSome = true := by kernel_rfl
theorem u119 : Tryd.prog.underlying 119 = some (.pointer 107) := by kernel_rfl
theorem sz119 : szT Tryd.prog 119 = 1 := by kernel_rfl
theorem by119 : byT Tryd.prog 119 = 8 := by kernel_rfl
theorem ag119 : aggT Tryd.prog 119 = some false := by kernel_rfl
theorem so119 : structOk Tryd.prog 119 = false := by kernel_rfl
theorem iz119 : (zeroT Tryd.prog 119).isSome = true := by kernel_rfl
theorem zk119 : zOk Tryd.prog 119 = true := by kernel_rfl
theorem iu119 : (Tryd.prog.underlying 119).isSome = true := by kernel_rfl
theorem u120 : Tryd.prog.underlying 120 = some (.pointer 110) := by kernel_rfl
theorem sz120 : szT Tryd.prog 120 = 1 := by kernel_rfl
theorem by120 : byT Tryd.prog 120 = 8 := by kernel_rfl
theorem ag120 : aggT Tryd.prog 120 = some false := by kernel_rfl
theorem so120 : structOk Tryd.prog 120 = false := by kernel_rfl
theorem iz120 : (zeroT Tryd.prog 120).isSome = true := by kernel_rfl
theorem zk120 : zOk Tryd.prog 120 = true := by kernel_rfl
theorem iu120 : (Tryd.prog.underlying 120).isSome = true := by kernel_rfl
theorem u123 : Tryd.prog.underlying 123 = some (.pointer 5) := by kernel_rfl
theorem sz123 : szT Tryd.prog 123 = 1 := by kernel_rfl
theorem by123 : byT Tryd.prog 123 = 8 := by kernel_rfl
theorem ag123 : aggT Tryd.prog 123 = some false := by kernel_rfl
theorem so123 : structOk Tryd.prog 123 = false := by kernel_rfl
theorem iz123 : (zeroT Tryd.prog 123).isSome = true := by kernel_rfl
theorem zk123 : zOk Tryd.prog 123 = true := by kernel_rfl
theorem iu123 : (Tryd.prog.underlying 123).isSome = true := by kernel_rfl
theorem u124 : Tryd.prog.underlying 124 = some (.pointer 126) := by kernel_rfl
theorem sz124 : szT Tryd.prog 124 = 1 := by kernel_rfl
theorem by124 : byT Tryd.prog 124 = 8 := by kernel_rfl
theorem ag124 : aggT Tryd.prog 124 = some false := by kernel_rfl
theorem so124 : structOk Tryd.prog 124 = false := by kernel_rfl
theorem iz124 : (zeroT Tryd.prog 124).isSome = true := by kernel_rfl
theorem zk124 : zOk Tryd.prog 124 = true := by kernel_rfl
theorem iu124 : (Tryd.prog.underlying 124).isSome = true := by kernel_rfl
theorem sz125 : szT Tryd.prog 125 = 1 := by kernel_rfl
theorem by125 : byT Tryd.prog 125 = 16 := by kernel_rfl
theorem ag125 : aggT Tryd.prog 125 = some true := by kernel_rfl
theorem so125 : structOk Tryd.prog 125 = true := by kernel_rfl
theorem fl125_0 : fieldT Tryd.prog 125 0 = some (9, 0) := by kernel_rfl
theorem se125 : seqK Tryd.prog 125 = some [1] := by kernel_rfl
theorem iz125 : (zeroT Tryd.prog 125).isSome = true := by kernel_rfl
theorem zk125 : zOk Tryd.prog 125 = true := by kernel_rfl
theorem iu125 : (Tryd.prog.underlying 125).isSome = true := by kernel_rfl
theorem sz126 : szT Tryd.prog 126 = 1 := by kernel_rfl
theorem by126 : byT Tryd.prog 126 = 16 := by kernel_rfl
theorem ag126 : aggT Tryd.prog 126 = some true := by kernel_rfl
theorem so126 : structOk Tryd.prog 126 = true := by kernel_rfl
theorem fl126_0 : fieldT Tryd.prog 126 0 = some (9, 0) := by kernel_rfl
theorem se126 : seqK Tryd.prog 126 = some [1] := by kernel_rfl
theorem iz126 : (zeroT Tryd.prog 126).isSome = true := by kernel_rfl
theorem zk126 : zOk Tryd.prog 126 = true := by kernel_rfl
theorem iu126 : (Tryd.prog.underlying 126).isSome = true := by kernel_rfl
theorem u127 : Tryd.prog.underlying 127 = some (.array 32 5) := by kernel_rfl
theorem sz127 : szT Tryd.prog 127 = 32 := by kernel_rfl
theorem by127 : byT Tryd.prog 127 = 32 := by kernel_rfl
theorem ag127 : aggT Tryd.prog 127 = some true := by kernel_rfl
theorem so127 : structOk Tryd.prog 127 = false := by kernel_rfl
theorem iz127 : (zeroT Tryd.prog 127).isSome = true := by kernel_rfl
theorem zk127 : zOk Tryd.prog 127 = true := by kernel_rfl
theorem iu127 : (Tryd.prog.underlying 127).isSome = true := by kernel_rfl
theorem u128 : Tryd.prog.underlying 128 = some (.array 64 5) := by kernel_rfl
theorem sz128 : szT Tryd.prog 128 = 64 := by kernel_rfl
theorem by128 : byT Tryd.prog 128 = 64 := by kernel_rfl
theorem ag128 : aggT Tryd.prog 128 = some true := by kernel_rfl
theorem so128 : structOk Tryd.prog 128 = false := by kernel_rfl
theorem iz128 : (zeroT Tryd.prog 128).isSome = true := by kernel_rfl
theorem zk128 : zOk Tryd.prog 128 = true := by kernel_rfl
theorem iu128 : (Tryd.prog.underlying 128).isSome = true := by kernel_rfl
theorem sz131 : szT Tryd.prog 131 = 4 := by kernel_rfl
theorem by131 : byT Tryd.prog 131 = 40 := by kernel_rfl
theorem ag131 : aggT Tryd.prog 131 = some true := by kernel_rfl
theorem so131 : structOk Tryd.prog 131 = true := by kernel_rfl
theorem fl131_0 : fieldT Tryd.prog 131 0 = some (17, 0) := by kernel_rfl
theorem fl131_1 : fieldT Tryd.prog 131 1 = some (17, 1) := by kernel_rfl
theorem fl131_2 : fieldT Tryd.prog 131 2 = some (17, 2) := by kernel_rfl
theorem fl131_3 : fieldT Tryd.prog 131 3 = some (9, 3) := by kernel_rfl
theorem iz131 : (zeroT Tryd.prog 131).isSome = true := by kernel_rfl
theorem zk131 : zOk Tryd.prog 131 = true := by kernel_rfl
theorem iu131 : (Tryd.prog.underlying 131).isSome = true := by kernel_rfl
theorem sz132 : szT Tryd.prog 132 = 4 := by kernel_rfl
theorem by132 : byT Tryd.prog 132 = 40 := by kernel_rfl
theorem ag132 : aggT Tryd.prog 132 = some true := by kernel_rfl
theorem so132 : structOk Tryd.prog 132 = true := by kernel_rfl
theorem fl132_0 : fieldT Tryd.prog 132 0 = some (17, 0) := by kernel_rfl
theorem fl132_1 : fieldT Tryd.prog 132 1 = some (17, 1) := by kernel_rfl
theorem fl132_2 : fieldT Tryd.prog 132 2 = some (17, 2) := by kernel_rfl
theorem fl132_3 : fieldT Tryd.prog 132 3 = some (9, 3) := by kernel_rfl
theorem iz132 : (zeroT Tryd.prog 132).isSome = true := by kernel_rfl
theorem zk132 : zOk Tryd.prog 132 = true := by kernel_rfl
theorem iu132 : (Tryd.prog.underlying 132).isSome = true := by kernel_rfl
theorem u133 : Tryd.prog.underlying 133 = some (.array 0 16) := by kernel_rfl
theorem sz133 : szT Tryd.prog 133 = 0 := by kernel_rfl
theorem by133 : byT Tryd.prog 133 = 0 := by kernel_rfl
theorem ag133 : aggT Tryd.prog 133 = some true := by kernel_rfl
theorem so133 : structOk Tryd.prog 133 = false := by kernel_rfl
theorem iz133 : (zeroT Tryd.prog 133).isSome = true := by kernel_rfl
theorem zk133 : zOk Tryd.prog 133 = true := by kernel_rfl
theorem iu133 : (Tryd.prog.underlying 133).isSome = true := by kernel_rfl
theorem sz134 : szT Tryd.prog 134 = 0 := by kernel_rfl
theorem by134 : byT Tryd.prog 134 = 0 := by kernel_rfl
theorem ag134 : aggT Tryd.prog 134 = some true := by kernel_rfl
theorem so134 : structOk Tryd.prog 134 = true := by kernel_rfl
theorem fl134_0 : fieldT Tryd.prog 134 0 = some (133, 0) := by kernel_rfl
theorem iz134 : (zeroT Tryd.prog 134).isSome = true := by kernel_rfl
theorem zk134 : zOk Tryd.prog 134 = true := by kernel_rfl
theorem iu134 : (Tryd.prog.underlying 134).isSome = true := by kernel_rfl
theorem sz135 : szT Tryd.prog 135 = 0 := by kernel_rfl
theorem by135 : byT Tryd.prog 135 = 0 := by kernel_rfl
theorem ag135 : aggT Tryd.prog 135 = some true := by kernel_rfl
theorem so135 : structOk Tryd.prog 135 = true := by kernel_rfl
theorem fl135_0 : fieldT Tryd.prog 135 0 = some (133, 0) := by kernel_rfl
theorem iz135 : (zeroT Tryd.prog 135).isSome = true := by kernel_rfl
theorem zk135 : zOk Tryd.prog 135 = true := by kernel_rfl
theorem iu135 : (Tryd.prog.underlying 135).isSome = true := by kernel_rfl
theorem u137 : Tryd.prog.underlying 137 = some (.int .u8) := by kernel_rfl
theorem sz137 : szT Tryd.prog 137 = 1 := by kernel_rfl
theorem by137 : byT Tryd.prog 137 = 1 := by kernel_rfl
theorem ag137 : aggT Tryd.prog 137 = some false := by kernel_rfl
theorem so137 : structOk Tryd.prog 137 = false := by kernel_rfl
theorem iz137 : (zeroT Tryd.prog 137).isSome = true := by kernel_rfl
theorem zk137 : zOk Tryd.prog 137 = true := by kernel_rfl
theorem iu137 : (Tryd.prog.underlying 137).isSome = true := by kernel_rfl
theorem u138 : Tryd.prog.underlying 138 = some (.int .u8) := by kernel_rfl
theorem sz138 : szT Tryd.prog 138 = 1 := by kernel_rfl
theorem by138 : byT Tryd.prog 138 = 1 := by kernel_rfl
theorem ag138 : aggT Tryd.prog 138 = some false := by kernel_rfl
theorem so138 : structOk Tryd.prog 138 = false := by kernel_rfl
theorem iz138 : (zeroT Tryd.prog 138).isSome = true := by kernel_rfl
theorem zk138 : zOk Tryd.prog 138 = true := by kernel_rfl
theorem iu138 : (Tryd.prog.underlying 138).isSome = true := by kernel_rfl
theorem u140 : Tryd.prog.underlying 140 = some (.int .i32) := by kernel_rfl
theorem sz140 : szT Tryd.prog 140 = 1 := by kernel_rfl
theorem by140 : byT Tryd.prog 140 = 4 := by kernel_rfl
theorem ag140 : aggT Tryd.prog 140 = some false := by kernel_rfl
theorem so140 : structOk Tryd.prog 140 = false := by kernel_rfl
theorem iz140 : (zeroT Tryd.prog 140).isSome = true := by kernel_rfl
theorem zk140 : zOk Tryd.prog 140 = true := by kernel_rfl
theorem iu140 : (Tryd.prog.underlying 140).isSome = true := by kernel_rfl
theorem u141 : Tryd.prog.underlying 141 = some (.int .i32) := by kernel_rfl
theorem sz141 : szT Tryd.prog 141 = 1 := by kernel_rfl
theorem by141 : byT Tryd.prog 141 = 4 := by kernel_rfl
theorem ag141 : aggT Tryd.prog 141 = some false := by kernel_rfl
theorem so141 : structOk Tryd.prog 141 = false := by kernel_rfl
theorem iz141 : (zeroT Tryd.prog 141).isSome = true := by kernel_rfl
theorem zk141 : zOk Tryd.prog 141 = true := by kernel_rfl
theorem iu141 : (Tryd.prog.underlying 141).isSome = true := by kernel_rfl
theorem sz142 : szT Tryd.prog 142 = 11 := by kernel_rfl
theorem by142 : byT Tryd.prog 142 = 48 := by kernel_rfl
theorem ag142 : aggT Tryd.prog 142 = some true := by kernel_rfl
theorem so142 : structOk Tryd.prog 142 = true := by kernel_rfl
theorem fl142_0 : fieldT Tryd.prog 142 0 = some (12, 0) := by kernel_rfl
theorem fl142_1 : fieldT Tryd.prog 142 1 = some (12, 1) := by kernel_rfl
theorem fl142_2 : fieldT Tryd.prog 142 2 = some (86, 2) := by kernel_rfl
theorem fl142_3 : fieldT Tryd.prog 142 3 = some (137, 3) := by kernel_rfl
theorem fl142_4 : fieldT Tryd.prog 142 4 = some (5, 4) := by kernel_rfl
theorem fl142_5 : fieldT Tryd.prog 142 5 = some (5, 5) := by kernel_rfl
theorem fl142_6 : fieldT Tryd.prog 142 6 = some (138, 6) := by kernel_rfl
theorem fl142_7 : fieldT Tryd.prog 142 7 = some (139, 7) := by kernel_rfl
theorem fl142_8 : fieldT Tryd.prog 142 8 = some (123, 8) := by kernel_rfl
theorem fl142_9 : fieldT Tryd.prog 142 9 = some (140, 9) := by kernel_rfl
theorem fl142_10 : fieldT Tryd.prog 142 10 = some (141, 10) := by kernel_rfl
theorem iz142 : (zeroT Tryd.prog 142).isSome = true := by kernel_rfl
theorem zk142 : zOk Tryd.prog 142 = true := by kernel_rfl
theorem iu142 : (Tryd.prog.underlying 142).isSome = true := by kernel_rfl
theorem sz143 : szT Tryd.prog 143 = 11 := by kernel_rfl
theorem by143 : byT Tryd.prog 143 = 48 := by kernel_rfl
theorem ag143 : aggT Tryd.prog 143 = some true := by kernel_rfl
theorem so143 : structOk Tryd.prog 143 = true := by kernel_rfl
theorem fl143_0 : fieldT Tryd.prog 143 0 = some (12, 0) := by kernel_rfl
theorem fl143_1 : fieldT Tryd.prog 143 1 = some (12, 1) := by kernel_rfl
theorem fl143_2 : fieldT Tryd.prog 143 2 = some (86, 2) := by kernel_rfl
theorem fl143_3 : fieldT Tryd.prog 143 3 = some (137, 3) := by kernel_rfl
theorem fl143_4 : fieldT Tryd.prog 143 4 = some (5, 4) := by kernel_rfl
theorem fl143_5 : fieldT Tryd.prog 143 5 = some (5, 5) := by kernel_rfl
theorem fl143_6 : fieldT Tryd.prog 143 6 = some (138, 6) := by kernel_rfl
theorem fl143_7 : fieldT Tryd.prog 143 7 = some (139, 7) := by kernel_rfl
theorem fl143_8 : fieldT Tryd.prog 143 8 = some (123, 8) := by kernel_rfl
theorem fl143_9 : fieldT Tryd.prog 143 9 = some (140, 9) := by kernel_rfl
theorem fl143_10 : fieldT Tryd.prog 143 10 = some (141, 10) := by kernel_rfl
theorem iz143 : (zeroT Tryd.prog 143).isSome = true := by kernel_rfl
theorem zk143 : zOk Tryd.prog 143 = true := by kernel_rfl
theorem iu143 : (Tryd.prog.underlying 143).isSome = true := by kernel_rfl
theorem if20 : isIfT Tryd.prog 20 = true := by kernel_rfl
theorem if57 : isIfT Tryd.prog 57 = true := by kernel_rfl
theorem if58 : isIfT Tryd.prog 58 = true := by kernel_rfl
def zerL : List (Nat × AV) := [(2, .lit (.int .i64 0)),
  (3, .lit (.int .i64 0)),
  (4, .lit (.bool false)),
  (5, .lit (.int .u8 0)),
  (6, .lit (.int .u8 0)),
  (7, .agg [.lit (.int .i64 0), .lit (.int .i64 0), .lit (.bool false), .lit (.int .u8 0)]),
  (8, .agg [.lit (.int .i64 0), .lit (.int .i64 0), .lit (.bool false), .lit (.int .u8 0)]),
  (9, .lit (.string ByteArray.empty)),
  (10, .lit (.string ByteArray.empty)),
  (11, .lit (.string ByteArray.empty)),
  (12, .lit (.int .u64 0)),
  (13, .agg [.lit (.string ByteArray.empty), .lit (.int .u64 0)]),
  (14, .agg [.lit (.string ByteArray.empty), .lit (.int .u64 0)]),
  (15, .lit (.pointer none)),
  (16, .lit (.pointer none)),
  (17, .lit (.pointer none)),
  (18, .agg [.lit (.pointer none)]),
  (19, .agg [.lit (.pointer none)]),
  (21, .lit (.int .i32 0)),
  (22, .sl true 1 []),
  (23, .agg [.lit (.string ByteArray.empty), .sl true 1 [], .sl true 1 []]),
  (24, .agg [.lit (.string ByteArray.empty), .sl true 1 [], .sl true 1 []]),
  (27, .lit (.int .i64 0)),
  (38, .sl true 1 []),
  (49, .agg [.sl true 1 [], .sl true 1 []]),
  (55, .sl true 1 []),
  (65, .lit (.int .u64 0)),
  (75, .agg [.lit (.int .u8 0), .lit (.int .u8 0), .lit (.int .u8 0), .lit (.int .u8 0), .lit (.int .u8 0), .lit (.int .u8 0), .lit (.int .u8 0), .lit (.int .u8 0), .lit (.int .u8 0), .lit (.int .u8 0), .lit (.int .u8 0), .lit (.int .u8 0), .lit (.int .u8 0), .lit (.int .u8 0), .lit (.int .u8 0), .lit (.int .u8 0), .lit (.int .u8 0), .lit (.int .u8 0), .lit (.int .u8 0), .lit (.int .u8 0), .lit (.int .u8 0), .lit (.int .u8 0), .lit (.int .u8 0), .lit (.int .u8 0)]),
  (82, .lit (.int .u64 0)),
  (83, .sl true 2 []),
  (84, .agg [.lit (.int .i64 0), .lit (.int .i64 0)]),
  (85, .agg [.lit (.int .i64 0), .lit (.int .i64 0)]),
  (86, .lit (.int .u32 0)),
  (88, .lit (.pointer none)),
  (89, .lit (.int .i64 0)),
  (92, .lit (.pointer none)),
  (96, .agg [.lit (.int .u64 0), .lit (.int .u64 0), .lit (.int .u64 0), .lit (.int .u64 0), .lit (.int .u64 0), .lit (.int .u64 0), .lit (.int .u64 0), .lit (.int .u64 0), .lit (.int .u64 0), .lit (.int .u64 0), .lit (.int .u64 0), .lit (.int .u64 0), .lit (.int .u64 0), .lit (.int .u64 0), .lit (.int .u64 0), .lit (.int .u64 0), .lit (.int .u64 0), .lit (.int .u64 0), .lit (.int .u64 0), .lit (.int .u64 0)]),
  (97, .agg [.lit (.int .u8 0), .lit (.int .u8 0), .lit (.int .u8 0), .lit (.int .u8 0), .lit (.int .u8 0), .lit (.int .u8 0), .lit (.int .u8 0), .lit (.int .u8 0), .lit (.int .u8 0), .lit (.int .u8 0), .lit (.int .u8 0), .lit (.int .u8 0), .lit (.int .u8 0), .lit (.int .u8 0), .lit (.int .u8 0), .lit (.int .u8 0), .lit (.int .u8 0), .lit (.int .u8 0), .lit (.int .u8 0), .lit (.int .u8 0), .lit (.int .u8 0), .lit (.int .u8 0), .lit (.int .u8 0), .lit (.int .u8 0), .lit (.int .u8 0), .lit (.int .u8 0), .lit (.int .u8 0), .lit (.int .u8 0), .lit (.int .u8 0), .lit (.int .u8 0), .lit (.int .u8 0), .lit (.int .u8 0), .lit (.int .u8 0), .lit (.int .u8 0), .lit (.int .u8 0), .lit (.int .u8 0), .lit (.int .u8 0), .lit (.int .u8 0), .lit (.int .u8 0), .lit (.int .u8 0), .lit (.int .u8 0), .lit (.int .u8 0), .lit (.int .u8 0), .lit (.int .u8 0), .lit (.int .u8 0), .lit (.int .u8 0), .lit (.int .u8 0), .lit (.int .u8 0), .lit (.int .u8 0), .lit (.int .u8 0), .lit (.int .u8 0), .lit (.int .u8 0), .lit (.int .u8 0), .lit (.int .u8 0), .lit (.int .u8 0), .lit (.int .u8 0), .lit (.int .u8 0), .lit (.int .u8 0), .lit (.int .u8 0), .lit (.int .u8 0), .lit (.int .u8 0), .lit (.int .u8 0), .lit (.int .u8 0), .lit (.int .u8 0), .lit (.int .u8 0)]),
  (101, .sl true 3 []),
  (102, .sl true 3 []),
  (103, .agg [.sl true 3 [], .sl true 3 [], .lit (.int .i64 0)]),
  (104, .agg [.sl true 3 [], .sl true 3 [], .lit (.int .i64 0)]),
  (105, .lit (.int .u16 0)),
  (106, .agg [.lit (.int .u16 0), .lit (.int .u16 0), .lit (.int .u16 0)]),
  (107, .agg [.lit (.int .u16 0), .lit (.int .u16 0), .lit (.int .u16 0)]),
  (109, .agg [.lit (.int .u32 0), .lit (.int .u32 0), .lit (.int .u32 0)]),
  (110, .agg [.lit (.int .u32 0), .lit (.int .u32 0), .lit (.int .u32 0)]),
  (115, .agg [.lit (.string ByteArray.empty), .lit (.string ByteArray.empty), .lit .nilIface]),
  (116, .agg [.lit (.string ByteArray.empty), .lit (.string ByteArray.empty), .lit .nilIface]),
  (119, .lit (.pointer none)),
  (120, .lit (.pointer none)),
  (123, .lit (.pointer none)),
  (124, .lit (.pointer none)),
  (125, .agg [.lit (.string ByteArray.empty)]),
  (126, .agg [.lit (.string ByteArray.empty)]),
  (127, .agg [.lit (.int .u8 0), .lit (.int .u8 0), .lit (.int .u8 0), .lit (.int .u8 0), .lit (.int .u8 0), .lit (.int .u8 0), .lit (.int .u8 0), .lit (.int .u8 0), .lit (.int .u8 0), .lit (.int .u8 0), .lit (.int .u8 0), .lit (.int .u8 0), .lit (.int .u8 0), .lit (.int .u8 0), .lit (.int .u8 0), .lit (.int .u8 0), .lit (.int .u8 0), .lit (.int .u8 0), .lit (.int .u8 0), .lit (.int .u8 0), .lit (.int .u8 0), .lit (.int .u8 0), .lit (.int .u8 0), .lit (.int .u8 0), .lit (.int .u8 0), .lit (.int .u8 0), .lit (.int .u8 0), .lit (.int .u8 0), .lit (.int .u8 0), .lit (.int .u8 0), .lit (.int .u8 0), .lit (.int .u8 0)]),
  (128, .agg [.lit (.int .u8 0), .lit (.int .u8 0), .lit (.int .u8 0), .lit (.int .u8 0), .lit (.int .u8 0), .lit (.int .u8 0), .lit (.int .u8 0), .lit (.int .u8 0), .lit (.int .u8 0), .lit (.int .u8 0), .lit (.int .u8 0), .lit (.int .u8 0), .lit (.int .u8 0), .lit (.int .u8 0), .lit (.int .u8 0), .lit (.int .u8 0), .lit (.int .u8 0), .lit (.int .u8 0), .lit (.int .u8 0), .lit (.int .u8 0), .lit (.int .u8 0), .lit (.int .u8 0), .lit (.int .u8 0), .lit (.int .u8 0), .lit (.int .u8 0), .lit (.int .u8 0), .lit (.int .u8 0), .lit (.int .u8 0), .lit (.int .u8 0), .lit (.int .u8 0), .lit (.int .u8 0), .lit (.int .u8 0), .lit (.int .u8 0), .lit (.int .u8 0), .lit (.int .u8 0), .lit (.int .u8 0), .lit (.int .u8 0), .lit (.int .u8 0), .lit (.int .u8 0), .lit (.int .u8 0), .lit (.int .u8 0), .lit (.int .u8 0), .lit (.int .u8 0), .lit (.int .u8 0), .lit (.int .u8 0), .lit (.int .u8 0), .lit (.int .u8 0), .lit (.int .u8 0), .lit (.int .u8 0), .lit (.int .u8 0), .lit (.int .u8 0), .lit (.int .u8 0), .lit (.int .u8 0), .lit (.int .u8 0), .lit (.int .u8 0), .lit (.int .u8 0), .lit (.int .u8 0), .lit (.int .u8 0), .lit (.int .u8 0), .lit (.int .u8 0), .lit (.int .u8 0), .lit (.int .u8 0), .lit (.int .u8 0), .lit (.int .u8 0)]),
  (131, .agg [.lit (.pointer none), .lit (.pointer none), .lit (.pointer none), .lit (.string ByteArray.empty)]),
  (132, .agg [.lit (.pointer none), .lit (.pointer none), .lit (.pointer none), .lit (.string ByteArray.empty)]),
  (137, .lit (.int .u8 0)),
  (138, .lit (.int .u8 0)),
  (140, .lit (.int .i32 0)),
  (141, .lit (.int .i32 0)),
  (142, .agg [.lit (.int .u64 0), .lit (.int .u64 0), .lit (.int .u32 0), .lit (.int .u8 0), .lit (.int .u8 0), .lit (.int .u8 0), .lit (.int .u8 0), .lit .nilFunc, .lit (.pointer none), .lit (.int .i32 0), .lit (.int .i32 0)]),
  (143, .agg [.lit (.int .u64 0), .lit (.int .u64 0), .lit (.int .u32 0), .lit (.int .u8 0), .lit (.int .u8 0), .lit (.int .u8 0), .lit (.int .u8 0), .lit .nilFunc, .lit (.pointer none), .lit (.int .i32 0), .lit (.int .i32 0)])]
def zer (t : TypeId) : AV := lookZ zerL t
theorem zr2 : ZerOk Tryd.prog (2, .lit (.int .i64 0)) := fun v h => by
  rw [show zeroT Tryd.prog 2 = some (.int .i64 0) from by kernel_rfl] at h; cases h; exact .lit _
theorem zv2 : zer 2 = .lit (.int .i64 0) := rfl
theorem zr3 : ZerOk Tryd.prog (3, .lit (.int .i64 0)) := fun v h => by
  rw [show zeroT Tryd.prog 3 = some (.int .i64 0) from by kernel_rfl] at h; cases h; exact .lit _
theorem zv3 : zer 3 = .lit (.int .i64 0) := rfl
theorem zr4 : ZerOk Tryd.prog (4, .lit (.bool false)) := fun v h => by
  rw [show zeroT Tryd.prog 4 = some (.bool false) from by kernel_rfl] at h; cases h; exact .lit _
theorem zv4 : zer 4 = .lit (.bool false) := rfl
theorem zr5 : ZerOk Tryd.prog (5, .lit (.int .u8 0)) := fun v h => by
  rw [show zeroT Tryd.prog 5 = some (.int .u8 0) from by kernel_rfl] at h; cases h; exact .lit _
theorem zv5 : zer 5 = .lit (.int .u8 0) := rfl
theorem zr6 : ZerOk Tryd.prog (6, .lit (.int .u8 0)) := fun v h => by
  rw [show zeroT Tryd.prog 6 = some (.int .u8 0) from by kernel_rfl] at h; cases h; exact .lit _
theorem zv6 : zer 6 = .lit (.int .u8 0) := rfl
theorem zr7 : ZerOk Tryd.prog (7, .agg [.lit (.int .i64 0), .lit (.int .i64 0), .lit (.bool false), .lit (.int .u8 0)]) := fun v h => by
  rw [show zeroT Tryd.prog 7 = some (.agg #[(.int .i64 0), (.int .i64 0), (.bool false), (.int .u8 0)]) from by kernel_rfl] at h; cases h
  exact zr_agg _ _ (zl_cons (.lit _) rfl (zl_cons (.lit _) rfl (zl_cons (.lit _) rfl (zl_cons (.lit _) rfl (zl_nil)))))
theorem zv7 : zer 7 = .agg [.lit (.int .i64 0), .lit (.int .i64 0), .lit (.bool false), .lit (.int .u8 0)] := rfl
theorem zr8 : ZerOk Tryd.prog (8, .agg [.lit (.int .i64 0), .lit (.int .i64 0), .lit (.bool false), .lit (.int .u8 0)]) := fun v h => by
  rw [show zeroT Tryd.prog 8 = some (.agg #[(.int .i64 0), (.int .i64 0), (.bool false), (.int .u8 0)]) from by kernel_rfl] at h; cases h
  exact zr_agg _ _ (zl_cons (.lit _) rfl (zl_cons (.lit _) rfl (zl_cons (.lit _) rfl (zl_cons (.lit _) rfl (zl_nil)))))
theorem zv8 : zer 8 = .agg [.lit (.int .i64 0), .lit (.int .i64 0), .lit (.bool false), .lit (.int .u8 0)] := rfl
theorem zr9 : ZerOk Tryd.prog (9, .lit (.string ByteArray.empty)) := fun v h => by
  rw [show zeroT Tryd.prog 9 = some (.string ByteArray.empty) from by kernel_rfl] at h; cases h; exact .lit _
theorem zv9 : zer 9 = .lit (.string ByteArray.empty) := rfl
theorem zr10 : ZerOk Tryd.prog (10, .lit (.string ByteArray.empty)) := fun v h => by
  rw [show zeroT Tryd.prog 10 = some (.string ByteArray.empty) from by kernel_rfl] at h; cases h; exact .lit _
theorem zv10 : zer 10 = .lit (.string ByteArray.empty) := rfl
theorem zr11 : ZerOk Tryd.prog (11, .lit (.string ByteArray.empty)) := fun v h => by
  rw [show zeroT Tryd.prog 11 = some (.string ByteArray.empty) from by kernel_rfl] at h; cases h; exact .lit _
theorem zv11 : zer 11 = .lit (.string ByteArray.empty) := rfl
theorem zr12 : ZerOk Tryd.prog (12, .lit (.int .u64 0)) := fun v h => by
  rw [show zeroT Tryd.prog 12 = some (.int .u64 0) from by kernel_rfl] at h; cases h; exact .lit _
theorem zv12 : zer 12 = .lit (.int .u64 0) := rfl
theorem zr13 : ZerOk Tryd.prog (13, .agg [.lit (.string ByteArray.empty), .lit (.int .u64 0)]) := fun v h => by
  rw [show zeroT Tryd.prog 13 = some (.agg #[(.string ByteArray.empty), (.int .u64 0)]) from by kernel_rfl] at h; cases h
  exact zr_agg _ _ (zl_cons (.lit _) rfl (zl_cons (.lit _) rfl (zl_nil)))
theorem zv13 : zer 13 = .agg [.lit (.string ByteArray.empty), .lit (.int .u64 0)] := rfl
theorem zr14 : ZerOk Tryd.prog (14, .agg [.lit (.string ByteArray.empty), .lit (.int .u64 0)]) := fun v h => by
  rw [show zeroT Tryd.prog 14 = some (.agg #[(.string ByteArray.empty), (.int .u64 0)]) from by kernel_rfl] at h; cases h
  exact zr_agg _ _ (zl_cons (.lit _) rfl (zl_cons (.lit _) rfl (zl_nil)))
theorem zv14 : zer 14 = .agg [.lit (.string ByteArray.empty), .lit (.int .u64 0)] := rfl
theorem zr15 : ZerOk Tryd.prog (15, .lit (.pointer none)) := fun v h => by
  rw [show zeroT Tryd.prog 15 = some (.pointer none) from by kernel_rfl] at h; cases h; exact .lit _
theorem zv15 : zer 15 = .lit (.pointer none) := rfl
theorem zr16 : ZerOk Tryd.prog (16, .lit (.pointer none)) := fun v h => by
  rw [show zeroT Tryd.prog 16 = some (.pointer none) from by kernel_rfl] at h; cases h; exact .lit _
theorem zv16 : zer 16 = .lit (.pointer none) := rfl
theorem zr17 : ZerOk Tryd.prog (17, .lit (.pointer none)) := fun v h => by
  rw [show zeroT Tryd.prog 17 = some (.pointer none) from by kernel_rfl] at h; cases h; exact .lit _
theorem zv17 : zer 17 = .lit (.pointer none) := rfl
theorem zr18 : ZerOk Tryd.prog (18, .agg [.lit (.pointer none)]) := fun v h => by
  rw [show zeroT Tryd.prog 18 = some (.agg #[(.pointer none)]) from by kernel_rfl] at h; cases h
  exact zr_agg _ _ (zl_cons (.lit _) rfl (zl_nil))
theorem zv18 : zer 18 = .agg [.lit (.pointer none)] := rfl
theorem zr19 : ZerOk Tryd.prog (19, .agg [.lit (.pointer none)]) := fun v h => by
  rw [show zeroT Tryd.prog 19 = some (.agg #[(.pointer none)]) from by kernel_rfl] at h; cases h
  exact zr_agg _ _ (zl_cons (.lit _) rfl (zl_nil))
theorem zv19 : zer 19 = .agg [.lit (.pointer none)] := rfl
theorem zr21 : ZerOk Tryd.prog (21, .lit (.int .i32 0)) := fun v h => by
  rw [show zeroT Tryd.prog 21 = some (.int .i32 0) from by kernel_rfl] at h; cases h; exact .lit _
theorem zv21 : zer 21 = .lit (.int .i32 0) := rfl
theorem zr22 : ZerOk Tryd.prog (22, .sl true 1 []) := fun v h => by
  rw [show zeroT Tryd.prog 22 = some (.slice none 0 0) from by kernel_rfl] at h; cases h; exact .nil _ _ _
theorem zv22 : zer 22 = .sl true 1 [] := rfl
theorem zr23 : ZerOk Tryd.prog (23, .agg [.lit (.string ByteArray.empty), .sl true 1 [], .sl true 1 []]) := fun v h => by
  rw [show zeroT Tryd.prog 23 = some (.agg #[(.string ByteArray.empty), (.slice none 0 0), (.slice none 0 0)]) from by kernel_rfl] at h; cases h
  exact zr_agg _ _ (zl_cons (.lit _) rfl (zl_cons (.nil _ _ _) rfl (zl_cons (.nil _ _ _) rfl (zl_nil))))
theorem zv23 : zer 23 = .agg [.lit (.string ByteArray.empty), .sl true 1 [], .sl true 1 []] := rfl
theorem zr24 : ZerOk Tryd.prog (24, .agg [.lit (.string ByteArray.empty), .sl true 1 [], .sl true 1 []]) := fun v h => by
  rw [show zeroT Tryd.prog 24 = some (.agg #[(.string ByteArray.empty), (.slice none 0 0), (.slice none 0 0)]) from by kernel_rfl] at h; cases h
  exact zr_agg _ _ (zl_cons (.lit _) rfl (zl_cons (.nil _ _ _) rfl (zl_cons (.nil _ _ _) rfl (zl_nil))))
theorem zv24 : zer 24 = .agg [.lit (.string ByteArray.empty), .sl true 1 [], .sl true 1 []] := rfl
theorem zr27 : ZerOk Tryd.prog (27, .lit (.int .i64 0)) := fun v h => by
  rw [show zeroT Tryd.prog 27 = some (.int .i64 0) from by kernel_rfl] at h; cases h; exact .lit _
theorem zv27 : zer 27 = .lit (.int .i64 0) := rfl
theorem zr38 : ZerOk Tryd.prog (38, .sl true 1 []) := fun v h => by
  rw [show zeroT Tryd.prog 38 = some (.slice none 0 0) from by kernel_rfl] at h; cases h; exact .nil _ _ _
theorem zv38 : zer 38 = .sl true 1 [] := rfl
theorem zr49 : ZerOk Tryd.prog (49, .agg [.sl true 1 [], .sl true 1 []]) := fun v h => by
  rw [show zeroT Tryd.prog 49 = some (.agg #[(.slice none 0 0), (.slice none 0 0)]) from by kernel_rfl] at h; cases h
  exact zr_agg _ _ (zl_cons (.nil _ _ _) rfl (zl_cons (.nil _ _ _) rfl (zl_nil)))
theorem zv49 : zer 49 = .agg [.sl true 1 [], .sl true 1 []] := rfl
theorem zr55 : ZerOk Tryd.prog (55, .sl true 1 []) := fun v h => by
  rw [show zeroT Tryd.prog 55 = some (.slice none 0 0) from by kernel_rfl] at h; cases h; exact .nil _ _ _
theorem zv55 : zer 55 = .sl true 1 [] := rfl
theorem zr65 : ZerOk Tryd.prog (65, .lit (.int .u64 0)) := fun v h => by
  rw [show zeroT Tryd.prog 65 = some (.int .u64 0) from by kernel_rfl] at h; cases h; exact .lit _
theorem zv65 : zer 65 = .lit (.int .u64 0) := rfl
theorem zr75 : ZerOk Tryd.prog (75, .agg [.lit (.int .u8 0), .lit (.int .u8 0), .lit (.int .u8 0), .lit (.int .u8 0), .lit (.int .u8 0), .lit (.int .u8 0), .lit (.int .u8 0), .lit (.int .u8 0), .lit (.int .u8 0), .lit (.int .u8 0), .lit (.int .u8 0), .lit (.int .u8 0), .lit (.int .u8 0), .lit (.int .u8 0), .lit (.int .u8 0), .lit (.int .u8 0), .lit (.int .u8 0), .lit (.int .u8 0), .lit (.int .u8 0), .lit (.int .u8 0), .lit (.int .u8 0), .lit (.int .u8 0), .lit (.int .u8 0), .lit (.int .u8 0)]) := fun v h => by
  rw [show zeroT Tryd.prog 75 = some (.agg #[(.int .u8 0), (.int .u8 0), (.int .u8 0), (.int .u8 0), (.int .u8 0), (.int .u8 0), (.int .u8 0), (.int .u8 0), (.int .u8 0), (.int .u8 0), (.int .u8 0), (.int .u8 0), (.int .u8 0), (.int .u8 0), (.int .u8 0), (.int .u8 0), (.int .u8 0), (.int .u8 0), (.int .u8 0), (.int .u8 0), (.int .u8 0), (.int .u8 0), (.int .u8 0), (.int .u8 0)]) from by kernel_rfl] at h; cases h
  exact zr_agg _ _ (zl_cons (.lit _) rfl (zl_cons (.lit _) rfl (zl_cons (.lit _) rfl (zl_cons (.lit _) rfl (zl_cons (.lit _) rfl (zl_cons (.lit _) rfl (zl_cons (.lit _) rfl (zl_cons (.lit _) rfl (zl_cons (.lit _) rfl (zl_cons (.lit _) rfl (zl_cons (.lit _) rfl (zl_cons (.lit _) rfl (zl_cons (.lit _) rfl (zl_cons (.lit _) rfl (zl_cons (.lit _) rfl (zl_cons (.lit _) rfl (zl_cons (.lit _) rfl (zl_cons (.lit _) rfl (zl_cons (.lit _) rfl (zl_cons (.lit _) rfl (zl_cons (.lit _) rfl (zl_cons (.lit _) rfl (zl_cons (.lit _) rfl (zl_cons (.lit _) rfl (zl_nil)))))))))))))))))))))))))
theorem zv75 : zer 75 = .agg [.lit (.int .u8 0), .lit (.int .u8 0), .lit (.int .u8 0), .lit (.int .u8 0), .lit (.int .u8 0), .lit (.int .u8 0), .lit (.int .u8 0), .lit (.int .u8 0), .lit (.int .u8 0), .lit (.int .u8 0), .lit (.int .u8 0), .lit (.int .u8 0), .lit (.int .u8 0), .lit (.int .u8 0), .lit (.int .u8 0), .lit (.int .u8 0), .lit (.int .u8 0), .lit (.int .u8 0), .lit (.int .u8 0), .lit (.int .u8 0), .lit (.int .u8 0), .lit (.int .u8 0), .lit (.int .u8 0), .lit (.int .u8 0)] := rfl
theorem zr82 : ZerOk Tryd.prog (82, .lit (.int .u64 0)) := fun v h => by
  rw [show zeroT Tryd.prog 82 = some (.int .u64 0) from by kernel_rfl] at h; cases h; exact .lit _
theorem zv82 : zer 82 = .lit (.int .u64 0) := rfl
theorem zr83 : ZerOk Tryd.prog (83, .sl true 2 []) := fun v h => by
  rw [show zeroT Tryd.prog 83 = some (.slice none 0 0) from by kernel_rfl] at h; cases h; exact .nil _ _ _
theorem zv83 : zer 83 = .sl true 2 [] := rfl
theorem zr84 : ZerOk Tryd.prog (84, .agg [.lit (.int .i64 0), .lit (.int .i64 0)]) := fun v h => by
  rw [show zeroT Tryd.prog 84 = some (.agg #[(.int .i64 0), (.int .i64 0)]) from by kernel_rfl] at h; cases h
  exact zr_agg _ _ (zl_cons (.lit _) rfl (zl_cons (.lit _) rfl (zl_nil)))
theorem zv84 : zer 84 = .agg [.lit (.int .i64 0), .lit (.int .i64 0)] := rfl
theorem zr85 : ZerOk Tryd.prog (85, .agg [.lit (.int .i64 0), .lit (.int .i64 0)]) := fun v h => by
  rw [show zeroT Tryd.prog 85 = some (.agg #[(.int .i64 0), (.int .i64 0)]) from by kernel_rfl] at h; cases h
  exact zr_agg _ _ (zl_cons (.lit _) rfl (zl_cons (.lit _) rfl (zl_nil)))
theorem zv85 : zer 85 = .agg [.lit (.int .i64 0), .lit (.int .i64 0)] := rfl
theorem zr86 : ZerOk Tryd.prog (86, .lit (.int .u32 0)) := fun v h => by
  rw [show zeroT Tryd.prog 86 = some (.int .u32 0) from by kernel_rfl] at h; cases h; exact .lit _
theorem zv86 : zer 86 = .lit (.int .u32 0) := rfl
theorem zr88 : ZerOk Tryd.prog (88, .lit (.pointer none)) := fun v h => by
  rw [show zeroT Tryd.prog 88 = some (.pointer none) from by kernel_rfl] at h; cases h; exact .lit _
theorem zv88 : zer 88 = .lit (.pointer none) := rfl
theorem zr89 : ZerOk Tryd.prog (89, .lit (.int .i64 0)) := fun v h => by
  rw [show zeroT Tryd.prog 89 = some (.int .i64 0) from by kernel_rfl] at h; cases h; exact .lit _
theorem zv89 : zer 89 = .lit (.int .i64 0) := rfl
theorem zr92 : ZerOk Tryd.prog (92, .lit (.pointer none)) := fun v h => by
  rw [show zeroT Tryd.prog 92 = some (.pointer none) from by kernel_rfl] at h; cases h; exact .lit _
theorem zv92 : zer 92 = .lit (.pointer none) := rfl
theorem zr96 : ZerOk Tryd.prog (96, .agg [.lit (.int .u64 0), .lit (.int .u64 0), .lit (.int .u64 0), .lit (.int .u64 0), .lit (.int .u64 0), .lit (.int .u64 0), .lit (.int .u64 0), .lit (.int .u64 0), .lit (.int .u64 0), .lit (.int .u64 0), .lit (.int .u64 0), .lit (.int .u64 0), .lit (.int .u64 0), .lit (.int .u64 0), .lit (.int .u64 0), .lit (.int .u64 0), .lit (.int .u64 0), .lit (.int .u64 0), .lit (.int .u64 0), .lit (.int .u64 0)]) := fun v h => by
  rw [show zeroT Tryd.prog 96 = some (.agg #[(.int .u64 0), (.int .u64 0), (.int .u64 0), (.int .u64 0), (.int .u64 0), (.int .u64 0), (.int .u64 0), (.int .u64 0), (.int .u64 0), (.int .u64 0), (.int .u64 0), (.int .u64 0), (.int .u64 0), (.int .u64 0), (.int .u64 0), (.int .u64 0), (.int .u64 0), (.int .u64 0), (.int .u64 0), (.int .u64 0)]) from by kernel_rfl] at h; cases h
  exact zr_agg _ _ (zl_cons (.lit _) rfl (zl_cons (.lit _) rfl (zl_cons (.lit _) rfl (zl_cons (.lit _) rfl (zl_cons (.lit _) rfl (zl_cons (.lit _) rfl (zl_cons (.lit _) rfl (zl_cons (.lit _) rfl (zl_cons (.lit _) rfl (zl_cons (.lit _) rfl (zl_cons (.lit _) rfl (zl_cons (.lit _) rfl (zl_cons (.lit _) rfl (zl_cons (.lit _) rfl (zl_cons (.lit _) rfl (zl_cons (.lit _) rfl (zl_cons (.lit _) rfl (zl_cons (.lit _) rfl (zl_cons (.lit _) rfl (zl_cons (.lit _) rfl (zl_nil)))))))))))))))))))))
theorem zv96 : zer 96 = .agg [.lit (.int .u64 0), .lit (.int .u64 0), .lit (.int .u64 0), .lit (.int .u64 0), .lit (.int .u64 0), .lit (.int .u64 0), .lit (.int .u64 0), .lit (.int .u64 0), .lit (.int .u64 0), .lit (.int .u64 0), .lit (.int .u64 0), .lit (.int .u64 0), .lit (.int .u64 0), .lit (.int .u64 0), .lit (.int .u64 0), .lit (.int .u64 0), .lit (.int .u64 0), .lit (.int .u64 0), .lit (.int .u64 0), .lit (.int .u64 0)] := rfl
theorem zr97 : ZerOk Tryd.prog (97, .agg [.lit (.int .u8 0), .lit (.int .u8 0), .lit (.int .u8 0), .lit (.int .u8 0), .lit (.int .u8 0), .lit (.int .u8 0), .lit (.int .u8 0), .lit (.int .u8 0), .lit (.int .u8 0), .lit (.int .u8 0), .lit (.int .u8 0), .lit (.int .u8 0), .lit (.int .u8 0), .lit (.int .u8 0), .lit (.int .u8 0), .lit (.int .u8 0), .lit (.int .u8 0), .lit (.int .u8 0), .lit (.int .u8 0), .lit (.int .u8 0), .lit (.int .u8 0), .lit (.int .u8 0), .lit (.int .u8 0), .lit (.int .u8 0), .lit (.int .u8 0), .lit (.int .u8 0), .lit (.int .u8 0), .lit (.int .u8 0), .lit (.int .u8 0), .lit (.int .u8 0), .lit (.int .u8 0), .lit (.int .u8 0), .lit (.int .u8 0), .lit (.int .u8 0), .lit (.int .u8 0), .lit (.int .u8 0), .lit (.int .u8 0), .lit (.int .u8 0), .lit (.int .u8 0), .lit (.int .u8 0), .lit (.int .u8 0), .lit (.int .u8 0), .lit (.int .u8 0), .lit (.int .u8 0), .lit (.int .u8 0), .lit (.int .u8 0), .lit (.int .u8 0), .lit (.int .u8 0), .lit (.int .u8 0), .lit (.int .u8 0), .lit (.int .u8 0), .lit (.int .u8 0), .lit (.int .u8 0), .lit (.int .u8 0), .lit (.int .u8 0), .lit (.int .u8 0), .lit (.int .u8 0), .lit (.int .u8 0), .lit (.int .u8 0), .lit (.int .u8 0), .lit (.int .u8 0), .lit (.int .u8 0), .lit (.int .u8 0), .lit (.int .u8 0), .lit (.int .u8 0)]) := fun v h => by
  rw [show zeroT Tryd.prog 97 = some (.agg #[(.int .u8 0), (.int .u8 0), (.int .u8 0), (.int .u8 0), (.int .u8 0), (.int .u8 0), (.int .u8 0), (.int .u8 0), (.int .u8 0), (.int .u8 0), (.int .u8 0), (.int .u8 0), (.int .u8 0), (.int .u8 0), (.int .u8 0), (.int .u8 0), (.int .u8 0), (.int .u8 0), (.int .u8 0), (.int .u8 0), (.int .u8 0), (.int .u8 0), (.int .u8 0), (.int .u8 0), (.int .u8 0), (.int .u8 0), (.int .u8 0), (.int .u8 0), (.int .u8 0), (.int .u8 0), (.int .u8 0), (.int .u8 0), (.int .u8 0), (.int .u8 0), (.int .u8 0), (.int .u8 0), (.int .u8 0), (.int .u8 0), (.int .u8 0), (.int .u8 0), (.int .u8 0), (.int .u8 0), (.int .u8 0), (.int .u8 0), (.int .u8 0), (.int .u8 0), (.int .u8 0), (.int .u8 0), (.int .u8 0), (.int .u8 0), (.int .u8 0), (.int .u8 0), (.int .u8 0), (.int .u8 0), (.int .u8 0), (.int .u8 0), (.int .u8 0), (.int .u8 0), (.int .u8 0), (.int .u8 0), (.int .u8 0), (.int .u8 0), (.int .u8 0), (.int .u8 0), (.int .u8 0)]) from by kernel_rfl] at h; cases h
  exact zr_agg _ _ (zl_cons (.lit _) rfl (zl_cons (.lit _) rfl (zl_cons (.lit _) rfl (zl_cons (.lit _) rfl (zl_cons (.lit _) rfl (zl_cons (.lit _) rfl (zl_cons (.lit _) rfl (zl_cons (.lit _) rfl (zl_cons (.lit _) rfl (zl_cons (.lit _) rfl (zl_cons (.lit _) rfl (zl_cons (.lit _) rfl (zl_cons (.lit _) rfl (zl_cons (.lit _) rfl (zl_cons (.lit _) rfl (zl_cons (.lit _) rfl (zl_cons (.lit _) rfl (zl_cons (.lit _) rfl (zl_cons (.lit _) rfl (zl_cons (.lit _) rfl (zl_cons (.lit _) rfl (zl_cons (.lit _) rfl (zl_cons (.lit _) rfl (zl_cons (.lit _) rfl (zl_cons (.lit _) rfl (zl_cons (.lit _) rfl (zl_cons (.lit _) rfl (zl_cons (.lit _) rfl (zl_cons (.lit _) rfl (zl_cons (.lit _) rfl (zl_cons (.lit _) rfl (zl_cons (.lit _) rfl (zl_cons (.lit _) rfl (zl_cons (.lit _) rfl (zl_cons (.lit _) rfl (zl_cons (.lit _) rfl (zl_cons (.lit _) rfl (zl_cons (.lit _) rfl (zl_cons (.lit _) rfl (zl_cons (.lit _) rfl (zl_cons (.lit _) rfl (zl_cons (.lit _) rfl (zl_cons (.lit _) rfl (zl_cons (.lit _) rfl (zl_cons (.lit _) rfl (zl_cons (.lit _) rfl (zl_cons (.lit _) rfl (zl_cons (.lit _) rfl (zl_cons (.lit _) rfl (zl_cons (.lit _) rfl (zl_cons (.lit _) rfl (zl_cons (.lit _) rfl (zl_cons (.lit _) rfl (zl_cons (.lit _) rfl (zl_cons (.lit _) rfl (zl_cons (.lit _) rfl (zl_cons (.lit _) rfl (zl_cons (.lit _) rfl (zl_cons (.lit _) rfl (zl_cons (.lit _) rfl (zl_cons (.lit _) rfl (zl_cons (.lit _) rfl (zl_cons (.lit _) rfl (zl_cons (.lit _) rfl (zl_cons (.lit _) rfl (zl_nil))))))))))))))))))))))))))))))))))))))))))))))))))))))))))))))))))
theorem zv97 : zer 97 = .agg [.lit (.int .u8 0), .lit (.int .u8 0), .lit (.int .u8 0), .lit (.int .u8 0), .lit (.int .u8 0), .lit (.int .u8 0), .lit (.int .u8 0), .lit (.int .u8 0), .lit (.int .u8 0), .lit (.int .u8 0), .lit (.int .u8 0), .lit (.int .u8 0), .lit (.int .u8 0), .lit (.int .u8 0), .lit (.int .u8 0), .lit (.int .u8 0), .lit (.int .u8 0), .lit (.int .u8 0), .lit (.int .u8 0), .lit (.int .u8 0), .lit (.int .u8 0), .lit (.int .u8 0), .lit (.int .u8 0), .lit (.int .u8 0), .lit (.int .u8 0), .lit (.int .u8 0), .lit (.int .u8 0), .lit (.int .u8 0), .lit (.int .u8 0), .lit (.int .u8 0), .lit (.int .u8 0), .lit (.int .u8 0), .lit (.int .u8 0), .lit (.int .u8 0), .lit (.int .u8 0), .lit (.int .u8 0), .lit (.int .u8 0), .lit (.int .u8 0), .lit (.int .u8 0), .lit (.int .u8 0), .lit (.int .u8 0), .lit (.int .u8 0), .lit (.int .u8 0), .lit (.int .u8 0), .lit (.int .u8 0), .lit (.int .u8 0), .lit (.int .u8 0), .lit (.int .u8 0), .lit (.int .u8 0), .lit (.int .u8 0), .lit (.int .u8 0), .lit (.int .u8 0), .lit (.int .u8 0), .lit (.int .u8 0), .lit (.int .u8 0), .lit (.int .u8 0), .lit (.int .u8 0), .lit (.int .u8 0), .lit (.int .u8 0), .lit (.int .u8 0), .lit (.int .u8 0), .lit (.int .u8 0), .lit (.int .u8 0), .lit (.int .u8 0), .lit (.int .u8 0)] := rfl
theorem zr101 : ZerOk Tryd.prog (101, .sl true 3 []) := fun v h => by
  rw [show zeroT Tryd.prog 101 = some (.slice none 0 0) from by kernel_rfl] at h; cases h; exact .nil _ _ _
theorem zv101 : zer 101 = .sl true 3 [] := rfl
theorem zr102 : ZerOk Tryd.prog (102, .sl true 3 []) := fun v h => by
  rw [show zeroT Tryd.prog 102 = some (.slice none 0 0) from by kernel_rfl] at h; cases h; exact .nil _ _ _
theorem zv102 : zer 102 = .sl true 3 [] := rfl
theorem zr103 : ZerOk Tryd.prog (103, .agg [.sl true 3 [], .sl true 3 [], .lit (.int .i64 0)]) := fun v h => by
  rw [show zeroT Tryd.prog 103 = some (.agg #[(.slice none 0 0), (.slice none 0 0), (.int .i64 0)]) from by kernel_rfl] at h; cases h
  exact zr_agg _ _ (zl_cons (.nil _ _ _) rfl (zl_cons (.nil _ _ _) rfl (zl_cons (.lit _) rfl (zl_nil))))
theorem zv103 : zer 103 = .agg [.sl true 3 [], .sl true 3 [], .lit (.int .i64 0)] := rfl
theorem zr104 : ZerOk Tryd.prog (104, .agg [.sl true 3 [], .sl true 3 [], .lit (.int .i64 0)]) := fun v h => by
  rw [show zeroT Tryd.prog 104 = some (.agg #[(.slice none 0 0), (.slice none 0 0), (.int .i64 0)]) from by kernel_rfl] at h; cases h
  exact zr_agg _ _ (zl_cons (.nil _ _ _) rfl (zl_cons (.nil _ _ _) rfl (zl_cons (.lit _) rfl (zl_nil))))
theorem zv104 : zer 104 = .agg [.sl true 3 [], .sl true 3 [], .lit (.int .i64 0)] := rfl
theorem zr105 : ZerOk Tryd.prog (105, .lit (.int .u16 0)) := fun v h => by
  rw [show zeroT Tryd.prog 105 = some (.int .u16 0) from by kernel_rfl] at h; cases h; exact .lit _
theorem zv105 : zer 105 = .lit (.int .u16 0) := rfl
theorem zr106 : ZerOk Tryd.prog (106, .agg [.lit (.int .u16 0), .lit (.int .u16 0), .lit (.int .u16 0)]) := fun v h => by
  rw [show zeroT Tryd.prog 106 = some (.agg #[(.int .u16 0), (.int .u16 0), (.int .u16 0)]) from by kernel_rfl] at h; cases h
  exact zr_agg _ _ (zl_cons (.lit _) rfl (zl_cons (.lit _) rfl (zl_cons (.lit _) rfl (zl_nil))))
theorem zv106 : zer 106 = .agg [.lit (.int .u16 0), .lit (.int .u16 0), .lit (.int .u16 0)] := rfl
theorem zr107 : ZerOk Tryd.prog (107, .agg [.lit (.int .u16 0), .lit (.int .u16 0), .lit (.int .u16 0)]) := fun v h => by
  rw [show zeroT Tryd.prog 107 = some (.agg #[(.int .u16 0), (.int .u16 0), (.int .u16 0)]) from by kernel_rfl] at h; cases h
  exact zr_agg _ _ (zl_cons (.lit _) rfl (zl_cons (.lit _) rfl (zl_cons (.lit _) rfl (zl_nil))))
theorem zv107 : zer 107 = .agg [.lit (.int .u16 0), .lit (.int .u16 0), .lit (.int .u16 0)] := rfl
theorem zr109 : ZerOk Tryd.prog (109, .agg [.lit (.int .u32 0), .lit (.int .u32 0), .lit (.int .u32 0)]) := fun v h => by
  rw [show zeroT Tryd.prog 109 = some (.agg #[(.int .u32 0), (.int .u32 0), (.int .u32 0)]) from by kernel_rfl] at h; cases h
  exact zr_agg _ _ (zl_cons (.lit _) rfl (zl_cons (.lit _) rfl (zl_cons (.lit _) rfl (zl_nil))))
theorem zv109 : zer 109 = .agg [.lit (.int .u32 0), .lit (.int .u32 0), .lit (.int .u32 0)] := rfl
theorem zr110 : ZerOk Tryd.prog (110, .agg [.lit (.int .u32 0), .lit (.int .u32 0), .lit (.int .u32 0)]) := fun v h => by
  rw [show zeroT Tryd.prog 110 = some (.agg #[(.int .u32 0), (.int .u32 0), (.int .u32 0)]) from by kernel_rfl] at h; cases h
  exact zr_agg _ _ (zl_cons (.lit _) rfl (zl_cons (.lit _) rfl (zl_cons (.lit _) rfl (zl_nil))))
theorem zv110 : zer 110 = .agg [.lit (.int .u32 0), .lit (.int .u32 0), .lit (.int .u32 0)] := rfl
theorem zr115 : ZerOk Tryd.prog (115, .agg [.lit (.string ByteArray.empty), .lit (.string ByteArray.empty), .lit .nilIface]) := fun v h => by
  rw [show zeroT Tryd.prog 115 = some (.agg #[(.string ByteArray.empty), (.string ByteArray.empty), .nilIface]) from by kernel_rfl] at h; cases h
  exact zr_agg _ _ (zl_cons (.lit _) rfl (zl_cons (.lit _) rfl (zl_cons (.lit _) rfl (zl_nil))))
theorem zv115 : zer 115 = .agg [.lit (.string ByteArray.empty), .lit (.string ByteArray.empty), .lit .nilIface] := rfl
theorem zr116 : ZerOk Tryd.prog (116, .agg [.lit (.string ByteArray.empty), .lit (.string ByteArray.empty), .lit .nilIface]) := fun v h => by
  rw [show zeroT Tryd.prog 116 = some (.agg #[(.string ByteArray.empty), (.string ByteArray.empty), .nilIface]) from by kernel_rfl] at h; cases h
  exact zr_agg _ _ (zl_cons (.lit _) rfl (zl_cons (.lit _) rfl (zl_cons (.lit _) rfl (zl_nil))))
theorem zv116 : zer 116 = .agg [.lit (.string ByteArray.empty), .lit (.string ByteArray.empty), .lit .nilIface] := rfl
theorem zr119 : ZerOk Tryd.prog (119, .lit (.pointer none)) := fun v h => by
  rw [show zeroT Tryd.prog 119 = some (.pointer none) from by kernel_rfl] at h; cases h; exact .lit _
theorem zv119 : zer 119 = .lit (.pointer none) := rfl
theorem zr120 : ZerOk Tryd.prog (120, .lit (.pointer none)) := fun v h => by
  rw [show zeroT Tryd.prog 120 = some (.pointer none) from by kernel_rfl] at h; cases h; exact .lit _
theorem zv120 : zer 120 = .lit (.pointer none) := rfl
theorem zr123 : ZerOk Tryd.prog (123, .lit (.pointer none)) := fun v h => by
  rw [show zeroT Tryd.prog 123 = some (.pointer none) from by kernel_rfl] at h; cases h; exact .lit _
theorem zv123 : zer 123 = .lit (.pointer none) := rfl
theorem zr124 : ZerOk Tryd.prog (124, .lit (.pointer none)) := fun v h => by
  rw [show zeroT Tryd.prog 124 = some (.pointer none) from by kernel_rfl] at h; cases h; exact .lit _
theorem zv124 : zer 124 = .lit (.pointer none) := rfl
theorem zr125 : ZerOk Tryd.prog (125, .agg [.lit (.string ByteArray.empty)]) := fun v h => by
  rw [show zeroT Tryd.prog 125 = some (.agg #[(.string ByteArray.empty)]) from by kernel_rfl] at h; cases h
  exact zr_agg _ _ (zl_cons (.lit _) rfl (zl_nil))
theorem zv125 : zer 125 = .agg [.lit (.string ByteArray.empty)] := rfl
theorem zr126 : ZerOk Tryd.prog (126, .agg [.lit (.string ByteArray.empty)]) := fun v h => by
  rw [show zeroT Tryd.prog 126 = some (.agg #[(.string ByteArray.empty)]) from by kernel_rfl] at h; cases h
  exact zr_agg _ _ (zl_cons (.lit _) rfl (zl_nil))
theorem zv126 : zer 126 = .agg [.lit (.string ByteArray.empty)] := rfl
theorem zr127 : ZerOk Tryd.prog (127, .agg [.lit (.int .u8 0), .lit (.int .u8 0), .lit (.int .u8 0), .lit (.int .u8 0), .lit (.int .u8 0), .lit (.int .u8 0), .lit (.int .u8 0), .lit (.int .u8 0), .lit (.int .u8 0), .lit (.int .u8 0), .lit (.int .u8 0), .lit (.int .u8 0), .lit (.int .u8 0), .lit (.int .u8 0), .lit (.int .u8 0), .lit (.int .u8 0), .lit (.int .u8 0), .lit (.int .u8 0), .lit (.int .u8 0), .lit (.int .u8 0), .lit (.int .u8 0), .lit (.int .u8 0), .lit (.int .u8 0), .lit (.int .u8 0), .lit (.int .u8 0), .lit (.int .u8 0), .lit (.int .u8 0), .lit (.int .u8 0), .lit (.int .u8 0), .lit (.int .u8 0), .lit (.int .u8 0), .lit (.int .u8 0)]) := fun v h => by
  rw [show zeroT Tryd.prog 127 = some (.agg #[(.int .u8 0), (.int .u8 0), (.int .u8 0), (.int .u8 0), (.int .u8 0), (.int .u8 0), (.int .u8 0), (.int .u8 0), (.int .u8 0), (.int .u8 0), (.int .u8 0), (.int .u8 0), (.int .u8 0), (.int .u8 0), (.int .u8 0), (.int .u8 0), (.int .u8 0), (.int .u8 0), (.int .u8 0), (.int .u8 0), (.int .u8 0), (.int .u8 0), (.int .u8 0), (.int .u8 0), (.int .u8 0), (.int .u8 0), (.int .u8 0), (.int .u8 0), (.int .u8 0), (.int .u8 0), (.int .u8 0), (.int .u8 0)]) from by kernel_rfl] at h; cases h
  exact zr_agg _ _ (zl_cons (.lit _) rfl (zl_cons (.lit _) rfl (zl_cons (.lit _) rfl (zl_cons (.lit _) rfl (zl_cons (.lit _) rfl (zl_cons (.lit _) rfl (zl_cons (.lit _) rfl (zl_cons (.lit _) rfl (zl_cons (.lit _) rfl (zl_cons (.lit _) rfl (zl_cons (.lit _) rfl (zl_cons (.lit _) rfl (zl_cons (.lit _) rfl (zl_cons (.lit _) rfl (zl_cons (.lit _) rfl (zl_cons (.lit _) rfl (zl_cons (.lit _) rfl (zl_cons (.lit _) rfl (zl_cons (.lit _) rfl (zl_cons (.lit _) rfl (zl_cons (.lit _) rfl (zl_cons (.lit _) rfl (zl_cons (.lit _) rfl (zl_cons (.lit _) rfl (zl_cons (.lit _) rfl (zl_cons (.lit _) rfl (zl_cons (.lit _) rfl (zl_cons (.lit _) rfl (zl_cons (.lit _) rfl (zl_cons (.lit _) rfl (zl_cons (.lit _) rfl (zl_cons (.lit _) rfl (zl_nil)))))))))))))))))))))))))))))))))
theorem zv127 : zer 127 = .agg [.lit (.int .u8 0), .lit (.int .u8 0), .lit (.int .u8 0), .lit (.int .u8 0), .lit (.int .u8 0), .lit (.int .u8 0), .lit (.int .u8 0), .lit (.int .u8 0), .lit (.int .u8 0), .lit (.int .u8 0), .lit (.int .u8 0), .lit (.int .u8 0), .lit (.int .u8 0), .lit (.int .u8 0), .lit (.int .u8 0), .lit (.int .u8 0), .lit (.int .u8 0), .lit (.int .u8 0), .lit (.int .u8 0), .lit (.int .u8 0), .lit (.int .u8 0), .lit (.int .u8 0), .lit (.int .u8 0), .lit (.int .u8 0), .lit (.int .u8 0), .lit (.int .u8 0), .lit (.int .u8 0), .lit (.int .u8 0), .lit (.int .u8 0), .lit (.int .u8 0), .lit (.int .u8 0), .lit (.int .u8 0)] := rfl
theorem zr128 : ZerOk Tryd.prog (128, .agg [.lit (.int .u8 0), .lit (.int .u8 0), .lit (.int .u8 0), .lit (.int .u8 0), .lit (.int .u8 0), .lit (.int .u8 0), .lit (.int .u8 0), .lit (.int .u8 0), .lit (.int .u8 0), .lit (.int .u8 0), .lit (.int .u8 0), .lit (.int .u8 0), .lit (.int .u8 0), .lit (.int .u8 0), .lit (.int .u8 0), .lit (.int .u8 0), .lit (.int .u8 0), .lit (.int .u8 0), .lit (.int .u8 0), .lit (.int .u8 0), .lit (.int .u8 0), .lit (.int .u8 0), .lit (.int .u8 0), .lit (.int .u8 0), .lit (.int .u8 0), .lit (.int .u8 0), .lit (.int .u8 0), .lit (.int .u8 0), .lit (.int .u8 0), .lit (.int .u8 0), .lit (.int .u8 0), .lit (.int .u8 0), .lit (.int .u8 0), .lit (.int .u8 0), .lit (.int .u8 0), .lit (.int .u8 0), .lit (.int .u8 0), .lit (.int .u8 0), .lit (.int .u8 0), .lit (.int .u8 0), .lit (.int .u8 0), .lit (.int .u8 0), .lit (.int .u8 0), .lit (.int .u8 0), .lit (.int .u8 0), .lit (.int .u8 0), .lit (.int .u8 0), .lit (.int .u8 0), .lit (.int .u8 0), .lit (.int .u8 0), .lit (.int .u8 0), .lit (.int .u8 0), .lit (.int .u8 0), .lit (.int .u8 0), .lit (.int .u8 0), .lit (.int .u8 0), .lit (.int .u8 0), .lit (.int .u8 0), .lit (.int .u8 0), .lit (.int .u8 0), .lit (.int .u8 0), .lit (.int .u8 0), .lit (.int .u8 0), .lit (.int .u8 0)]) := fun v h => by
  rw [show zeroT Tryd.prog 128 = some (.agg #[(.int .u8 0), (.int .u8 0), (.int .u8 0), (.int .u8 0), (.int .u8 0), (.int .u8 0), (.int .u8 0), (.int .u8 0), (.int .u8 0), (.int .u8 0), (.int .u8 0), (.int .u8 0), (.int .u8 0), (.int .u8 0), (.int .u8 0), (.int .u8 0), (.int .u8 0), (.int .u8 0), (.int .u8 0), (.int .u8 0), (.int .u8 0), (.int .u8 0), (.int .u8 0), (.int .u8 0), (.int .u8 0), (.int .u8 0), (.int .u8 0), (.int .u8 0), (.int .u8 0), (.int .u8 0), (.int .u8 0), (.int .u8 0), (.int .u8 0), (.int .u8 0), (.int .u8 0), (.int .u8 0), (.int .u8 0), (.int .u8 0), (.int .u8 0), (.int .u8 0), (.int .u8 0), (.int .u8 0), (.int .u8 0), (.int .u8 0), (.int .u8 0), (.int .u8 0), (.int .u8 0), (.int .u8 0), (.int .u8 0), (.int .u8 0), (.int .u8 0), (.int .u8 0), (.int .u8 0), (.int .u8 0), (.int .u8 0), (.int .u8 0), (.int .u8 0), (.int .u8 0), (.int .u8 0), (.int .u8 0), (.int .u8 0), (.int .u8 0), (.int .u8 0), (.int .u8 0)]) from by kernel_rfl] at h; cases h
  exact zr_agg _ _ (zl_cons (.lit _) rfl (zl_cons (.lit _) rfl (zl_cons (.lit _) rfl (zl_cons (.lit _) rfl (zl_cons (.lit _) rfl (zl_cons (.lit _) rfl (zl_cons (.lit _) rfl (zl_cons (.lit _) rfl (zl_cons (.lit _) rfl (zl_cons (.lit _) rfl (zl_cons (.lit _) rfl (zl_cons (.lit _) rfl (zl_cons (.lit _) rfl (zl_cons (.lit _) rfl (zl_cons (.lit _) rfl (zl_cons (.lit _) rfl (zl_cons (.lit _) rfl (zl_cons (.lit _) rfl (zl_cons (.lit _) rfl (zl_cons (.lit _) rfl (zl_cons (.lit _) rfl (zl_cons (.lit _) rfl (zl_cons (.lit _) rfl (zl_cons (.lit _) rfl (zl_cons (.lit _) rfl (zl_cons (.lit _) rfl (zl_cons (.lit _) rfl (zl_cons (.lit _) rfl (zl_cons (.lit _) rfl (zl_cons (.lit _) rfl (zl_cons (.lit _) rfl (zl_cons (.lit _) rfl (zl_cons (.lit _) rfl (zl_cons (.lit _) rfl (zl_cons (.lit _) rfl (zl_cons (.lit _) rfl (zl_cons (.lit _) rfl (zl_cons (.lit _) rfl (zl_cons (.lit _) rfl (zl_cons (.lit _) rfl (zl_cons (.lit _) rfl (zl_cons (.lit _) rfl (zl_cons (.lit _) rfl (zl_cons (.lit _) rfl (zl_cons (.lit _) rfl (zl_cons (.lit _) rfl (zl_cons (.lit _) rfl (zl_cons (.lit _) rfl (zl_cons (.lit _) rfl (zl_cons (.lit _) rfl (zl_cons (.lit _) rfl (zl_cons (.lit _) rfl (zl_cons (.lit _) rfl (zl_cons (.lit _) rfl (zl_cons (.lit _) rfl (zl_cons (.lit _) rfl (zl_cons (.lit _) rfl (zl_cons (.lit _) rfl (zl_cons (.lit _) rfl (zl_cons (.lit _) rfl (zl_cons (.lit _) rfl (zl_cons (.lit _) rfl (zl_cons (.lit _) rfl (zl_cons (.lit _) rfl (zl_nil)))))))))))))))))))))))))))))))))))))))))))))))))))))))))))))))))
theorem zv128 : zer 128 = .agg [.lit (.int .u8 0), .lit (.int .u8 0), .lit (.int .u8 0), .lit (.int .u8 0), .lit (.int .u8 0), .lit (.int .u8 0), .lit (.int .u8 0), .lit (.int .u8 0), .lit (.int .u8 0), .lit (.int .u8 0), .lit (.int .u8 0), .lit (.int .u8 0), .lit (.int .u8 0), .lit (.int .u8 0), .lit (.int .u8 0), .lit (.int .u8 0), .lit (.int .u8 0), .lit (.int .u8 0), .lit (.int .u8 0), .lit (.int .u8 0), .lit (.int .u8 0), .lit (.int .u8 0), .lit (.int .u8 0), .lit (.int .u8 0), .lit (.int .u8 0), .lit (.int .u8 0), .lit (.int .u8 0), .lit (.int .u8 0), .lit (.int .u8 0), .lit (.int .u8 0), .lit (.int .u8 0), .lit (.int .u8 0), .lit (.int .u8 0), .lit (.int .u8 0), .lit (.int .u8 0), .lit (.int .u8 0), .lit (.int .u8 0), .lit (.int .u8 0), .lit (.int .u8 0), .lit (.int .u8 0), .lit (.int .u8 0), .lit (.int .u8 0), .lit (.int .u8 0), .lit (.int .u8 0), .lit (.int .u8 0), .lit (.int .u8 0), .lit (.int .u8 0), .lit (.int .u8 0), .lit (.int .u8 0), .lit (.int .u8 0), .lit (.int .u8 0), .lit (.int .u8 0), .lit (.int .u8 0), .lit (.int .u8 0), .lit (.int .u8 0), .lit (.int .u8 0), .lit (.int .u8 0), .lit (.int .u8 0), .lit (.int .u8 0), .lit (.int .u8 0), .lit (.int .u8 0), .lit (.int .u8 0), .lit (.int .u8 0), .lit (.int .u8 0)] := rfl
theorem zr131 : ZerOk Tryd.prog (131, .agg [.lit (.pointer none), .lit (.pointer none), .lit (.pointer none), .lit (.string ByteArray.empty)]) := fun v h => by
  rw [show zeroT Tryd.prog 131 = some (.agg #[(.pointer none), (.pointer none), (.pointer none), (.string ByteArray.empty)]) from by kernel_rfl] at h; cases h
  exact zr_agg _ _ (zl_cons (.lit _) rfl (zl_cons (.lit _) rfl (zl_cons (.lit _) rfl (zl_cons (.lit _) rfl (zl_nil)))))
theorem zv131 : zer 131 = .agg [.lit (.pointer none), .lit (.pointer none), .lit (.pointer none), .lit (.string ByteArray.empty)] := rfl
theorem zr132 : ZerOk Tryd.prog (132, .agg [.lit (.pointer none), .lit (.pointer none), .lit (.pointer none), .lit (.string ByteArray.empty)]) := fun v h => by
  rw [show zeroT Tryd.prog 132 = some (.agg #[(.pointer none), (.pointer none), (.pointer none), (.string ByteArray.empty)]) from by kernel_rfl] at h; cases h
  exact zr_agg _ _ (zl_cons (.lit _) rfl (zl_cons (.lit _) rfl (zl_cons (.lit _) rfl (zl_cons (.lit _) rfl (zl_nil)))))
theorem zv132 : zer 132 = .agg [.lit (.pointer none), .lit (.pointer none), .lit (.pointer none), .lit (.string ByteArray.empty)] := rfl
theorem zr137 : ZerOk Tryd.prog (137, .lit (.int .u8 0)) := fun v h => by
  rw [show zeroT Tryd.prog 137 = some (.int .u8 0) from by kernel_rfl] at h; cases h; exact .lit _
theorem zv137 : zer 137 = .lit (.int .u8 0) := rfl
theorem zr138 : ZerOk Tryd.prog (138, .lit (.int .u8 0)) := fun v h => by
  rw [show zeroT Tryd.prog 138 = some (.int .u8 0) from by kernel_rfl] at h; cases h; exact .lit _
theorem zv138 : zer 138 = .lit (.int .u8 0) := rfl
theorem zr140 : ZerOk Tryd.prog (140, .lit (.int .i32 0)) := fun v h => by
  rw [show zeroT Tryd.prog 140 = some (.int .i32 0) from by kernel_rfl] at h; cases h; exact .lit _
theorem zv140 : zer 140 = .lit (.int .i32 0) := rfl
theorem zr141 : ZerOk Tryd.prog (141, .lit (.int .i32 0)) := fun v h => by
  rw [show zeroT Tryd.prog 141 = some (.int .i32 0) from by kernel_rfl] at h; cases h; exact .lit _
theorem zv141 : zer 141 = .lit (.int .i32 0) := rfl
theorem zr142 : ZerOk Tryd.prog (142, .agg [.lit (.int .u64 0), .lit (.int .u64 0), .lit (.int .u32 0), .lit (.int .u8 0), .lit (.int .u8 0), .lit (.int .u8 0), .lit (.int .u8 0), .lit .nilFunc, .lit (.pointer none), .lit (.int .i32 0), .lit (.int .i32 0)]) := fun v h => by
  rw [show zeroT Tryd.prog 142 = some (.agg #[(.int .u64 0), (.int .u64 0), (.int .u32 0), (.int .u8 0), (.int .u8 0), (.int .u8 0), (.int .u8 0), .nilFunc, (.pointer none), (.int .i32 0), (.int .i32 0)]) from by kernel_rfl] at h; cases h
  exact zr_agg _ _ (zl_cons (.lit _) rfl (zl_cons (.lit _) rfl (zl_cons (.lit _) rfl (zl_cons (.lit _) rfl (zl_cons (.lit _) rfl (zl_cons (.lit _) rfl (zl_cons (.lit _) rfl (zl_cons (.lit _) rfl (zl_cons (.lit _) rfl (zl_cons (.lit _) rfl (zl_cons (.lit _) rfl (zl_nil))))))))))))
theorem zv142 : zer 142 = .agg [.lit (.int .u64 0), .lit (.int .u64 0), .lit (.int .u32 0), .lit (.int .u8 0), .lit (.int .u8 0), .lit (.int .u8 0), .lit (.int .u8 0), .lit .nilFunc, .lit (.pointer none), .lit (.int .i32 0), .lit (.int .i32 0)] := rfl
theorem zr143 : ZerOk Tryd.prog (143, .agg [.lit (.int .u64 0), .lit (.int .u64 0), .lit (.int .u32 0), .lit (.int .u8 0), .lit (.int .u8 0), .lit (.int .u8 0), .lit (.int .u8 0), .lit .nilFunc, .lit (.pointer none), .lit (.int .i32 0), .lit (.int .i32 0)]) := fun v h => by
  rw [show zeroT Tryd.prog 143 = some (.agg #[(.int .u64 0), (.int .u64 0), (.int .u32 0), (.int .u8 0), (.int .u8 0), (.int .u8 0), (.int .u8 0), .nilFunc, (.pointer none), (.int .i32 0), (.int .i32 0)]) from by kernel_rfl] at h; cases h
  exact zr_agg _ _ (zl_cons (.lit _) rfl (zl_cons (.lit _) rfl (zl_cons (.lit _) rfl (zl_cons (.lit _) rfl (zl_cons (.lit _) rfl (zl_cons (.lit _) rfl (zl_cons (.lit _) rfl (zl_cons (.lit _) rfl (zl_cons (.lit _) rfl (zl_cons (.lit _) rfl (zl_cons (.lit _) rfl (zl_nil))))))))))))
theorem zv143 : zer 143 = .agg [.lit (.int .u64 0), .lit (.int .u64 0), .lit (.int .u32 0), .lit (.int .u8 0), .lit (.int .u8 0), .lit (.int .u8 0), .lit (.int .u8 0), .lit .nilFunc, .lit (.pointer none), .lit (.int .i32 0), .lit (.int .i32 0)] := rfl
theorem zer_ok : ∀ t v, zeroT Tryd.prog t = some v → RC (fun _ _ => none) (zer t) v := zer_sound zerL (zs_cons zr2 (zs_cons zr3 (zs_cons zr4 (zs_cons zr5 (zs_cons zr6 (zs_cons zr7 (zs_cons zr8 (zs_cons zr9 (zs_cons zr10 (zs_cons zr11 (zs_cons zr12 (zs_cons zr13 (zs_cons zr14 (zs_cons zr15 (zs_cons zr16 (zs_cons zr17 (zs_cons zr18 (zs_cons zr19 (zs_cons zr21 (zs_cons zr22 (zs_cons zr23 (zs_cons zr24 (zs_cons zr27 (zs_cons zr38 (zs_cons zr49 (zs_cons zr55 (zs_cons zr65 (zs_cons zr75 (zs_cons zr82 (zs_cons zr83 (zs_cons zr84 (zs_cons zr85 (zs_cons zr86 (zs_cons zr88 (zs_cons zr89 (zs_cons zr92 (zs_cons zr96 (zs_cons zr97 (zs_cons zr101 (zs_cons zr102 (zs_cons zr103 (zs_cons zr104 (zs_cons zr105 (zs_cons zr106 (zs_cons zr107 (zs_cons zr109 (zs_cons zr110 (zs_cons zr115 (zs_cons zr116 (zs_cons zr119 (zs_cons zr120 (zs_cons zr123 (zs_cons zr124 (zs_cons zr125 (zs_cons zr126 (zs_cons zr127 (zs_cons zr128 (zs_cons zr131 (zs_cons zr132 (zs_cons zr137 (zs_cons zr138 (zs_cons zr140 (zs_cons zr141 (zs_cons zr142 (zs_cons zr143 (zs_nil))))))))))))))))))))))))))))))))))))))))))))))))))))))))))))))))))
theorem mixed : Tryd.prog.follows .mixedOrders = true := by kernel_rfl
theorem fk4 : fok Tryd.prog 4 = true := by kernel_rfl -- framewise/framewiselaw18.awake
theorem fk5 : fok Tryd.prog 5 = true := by kernel_rfl -- framewise/framewiseref18.Few
theorem fk6 : fok Tryd.prog 6 = true := by kernel_rfl -- framewise/array.Print
theorem fk7 : fok Tryd.prog 7 = true := by kernel_rfl -- framewise/framewiseref18.Print
theorem fk8 : fok Tryd.prog 8 = true := by kernel_rfl -- framewise/array.Parse
theorem fk9 : fok Tryd.prog 9 = true := by kernel_rfl -- framewise/framewiseref18.Equal
theorem fk10 : fok Tryd.prog 10 = true := by kernel_rfl -- framewise/framewiseref18.Parse
theorem fk11 : fok Tryd.prog 11 = true := by kernel_rfl -- framewise/array.Of
theorem fk12 : fok Tryd.prog 12 = true := by kernel_rfl -- framewise/array.Offset
theorem fk13 : fok Tryd.prog 13 = true := by kernel_rfl -- framewise/array.Valid
theorem fk16 : fok Tryd.prog 16 = true := by kernel_rfl -- framewise/framewiseref18.Valid
theorem fk17 : fok Tryd.prog 17 = true := by kernel_rfl -- framewise/framewiseref18.Decimal
theorem fk18 : fok Tryd.prog 18 = true := by kernel_rfl -- strings.CutPrefix
theorem fk19 : fok Tryd.prog 19 = true := by kernel_rfl -- strings.CutSuffix
theorem fk20 : fok Tryd.prog 20 = true := by kernel_rfl -- strings.Cut
theorem fk21 : fok Tryd.prog 21 = true := by kernel_rfl -- framewise/array.numbers
theorem fk22 : fok Tryd.prog 22 = true := by kernel_rfl -- framewise/framewiseref17.SameInts
theorem fk23 : fok Tryd.prog 23 = true := by kernel_rfl -- framewise/framewiseref18.number
theorem fk24 : fok Tryd.prog 24 = true := by kernel_rfl -- framewise/framewiseref18.Of
theorem fk25 : fok Tryd.prog 25 = true := by kernel_rfl -- framewise/array.Size
theorem fk26 : fok Tryd.prog 26 = true := by kernel_rfl -- framewise/array.elements
theorem fk27 : fok Tryd.prog 27 = true := by kernel_rfl -- slices.Clone[[]int,int]
theorem fk31 : fok Tryd.prog 31 = true := by kernel_rfl -- internal/stringslite.Cut
theorem fk32 : fok Tryd.prog 32 = true := by kernel_rfl -- strings.Fields
theorem fk33 : fok Tryd.prog 33 = true := by kernel_rfl -- strconv.Atoi
theorem fk34 : fok Tryd.prog 34 = true := by kernel_rfl -- framewise/framewiseref18.Size
theorem fk35 : fok Tryd.prog 35 = true := by kernel_rfl -- framewise/framewiseref17.Valid
theorem fk36 : fok Tryd.prog 36 = true := by kernel_rfl -- framewise/framewiseref18.Copy
theorem fk37 : fok Tryd.prog 37 = true := by kernel_rfl -- slices.Contains[[]int,int]
theorem fk38 : fok Tryd.prog 38 = true := by kernel_rfl -- slices.ContainsFunc[[]int,int]
theorem fk39 : fok Tryd.prog 39 = true := by kernel_rfl -- framewise/array.elements$1
theorem fk40 : fok Tryd.prog 40 = true := by kernel_rfl -- framewise/element.Valid
theorem fk44 : fok Tryd.prog 44 = true := by kernel_rfl -- internal/stringslite.Index
theorem fk49 : fok Tryd.prog 49 = true := by kernel_rfl -- slices.Index[[]int,int]
theorem fk50 : fok Tryd.prog 50 = true := by kernel_rfl -- slices.IndexFunc[[]int,int]
theorem fk55 : fok Tryd.prog 55 = true := by kernel_rfl -- internal/stringslite.IndexByte
attribute [go_sem] u2 sz2 by2 ag2 so2 iz2 zk2 iu2 u3 sz3 by3 ag3 so3 iz3 zk3 iu3 u4 sz4 by4 ag4 so4 iz4 zk4 iu4 u5 sz5 by5 ag5 so5 iz5 zk5 iu5 u6 sz6 by6 ag6 so6 iz6 zk6 iu6 sz7 by7 ag7 so7 fl7_0 fl7_1 fl7_2 fl7_3 se7 iz7 zk7 iu7 sz8 by8 ag8 so8 fl8_0 fl8_1 fl8_2 fl8_3 se8 iz8 zk8 iu8 u9 sz9 by9 ag9 so9 iz9 zk9 iu9 u10 sz10 by10 ag10 so10 iz10 zk10 iu10 u11 sz11 by11 ag11 so11 iz11 zk11 iu11 u12 sz12 by12 ag12 so12 iz12 zk12 iu12 sz13 by13 ag13 so13 fl13_0 fl13_1 iz13 zk13 iu13 sz14 by14 ag14 so14 fl14_0 fl14_1 iz14 zk14 iu14 u15 sz15 by15 ag15 so15 iz15 zk15 iu15 u16 sz16 by16 ag16 so16 iz16 zk16 iu16 u17 sz17 by17 ag17 so17 iz17 zk17 iu17 sz18 by18 ag18 so18 fl18_0 iz18 zk18 iu18 sz19 by19 ag19 so19 fl19_0 iz19 zk19 iu19 u21 sz21 by21 ag21 so21 iz21 zk21 iu21 u22 sz22 by22 ag22 so22 iz22 zk22 iu22 ap22 sz23 by23 ag23 so23 fl23_0 fl23_1 fl23_2 iz23 zk23 iu23 sz24 by24 ag24 so24 fl24_0 fl24_1 fl24_2 iz24 zk24 iu24 u27 sz27 by27 ag27 so27 iz27 zk27 iu27 u38 sz38 by38 ag38 so38 iz38 zk38 iu38 ap38 aps38 u49 sz49 by49 ag49 so49 iz49 zk49 iu49 u55 sz55 by55 ag55 so55 iz55 zk55 iu55 ap55 u65 sz65 by65 ag65 so65 iz65 zk65 iu65 u75 sz75 by75 ag75 so75 iz75 zk75 iu75 u82 sz82 by82 ag82 so82 iz82 zk82 iu82 u83 sz83 by83 ag83 so83 iz83 zk83 iu83 ap83 sz84 by84 ag84 so84 fl84_0 fl84_1 se84 iz84 zk84 iu84 sz85 by85 ag85 so85 fl85_0 fl85_1 se85 iz85 zk85 iu85 u86 sz86 by86 ag86 so86 iz86 zk86 iu86 u88 sz88 by88 ag88 so88 iz88 zk88 iu88 u89 sz89 by89 ag89 so89 iz89 zk89 iu89 u92 sz92 by92 ag92 so92 iz92 zk92 iu92 u96 sz96 by96 ag96 so96 iz96 zk96 iu96 u97 sz97 by97 ag97 so97 iz97 zk97 iu97 u101 sz101 by101 ag101 so101 iz101 zk101 iu101 ap101 u102 sz102 by102 ag102 so102 iz102 zk102 iu102 ap102 sz103 by103 ag103 so103 fl103_0 fl103_1 fl103_2 iz103 zk103 iu103 sz104 by104 ag104 so104 fl104_0 fl104_1 fl104_2 iz104 zk104 iu104 u105 sz105 by105 ag105 so105 iz105 zk105 iu105 sz106 by106 ag106 so106 fl106_0 fl106_1 fl106_2 se106 iz106 zk106 iu106 sz107 by107 ag107 so107 fl107_0 fl107_1 fl107_2 se107 iz107 zk107 iu107 sz109 by109 ag109 so109 fl109_0 fl109_1 fl109_2 se109 iz109 zk109 iu109 sz110 by110 ag110 so110 fl110_0 fl110_1 fl110_2 se110 iz110 zk110 iu110 sz115 by115 ag115 so115 fl115_0 fl115_1 fl115_2 iz115 zk115 iu115 sz116 by116 ag116 so116 fl116_0 fl116_1 fl116_2 iz116 zk116 iu116 u119 sz119 by119 ag119 so119 iz119 zk119 iu119 u120 sz120 by120 ag120 so120 iz120 zk120 iu120 u123 sz123 by123 ag123 so123 iz123 zk123 iu123 u124 sz124 by124 ag124 so124 iz124 zk124 iu124 sz125 by125 ag125 so125 fl125_0 se125 iz125 zk125 iu125 sz126 by126 ag126 so126 fl126_0 se126 iz126 zk126 iu126 u127 sz127 by127 ag127 so127 iz127 zk127 iu127 u128 sz128 by128 ag128 so128 iz128 zk128 iu128 sz131 by131 ag131 so131 fl131_0 fl131_1 fl131_2 fl131_3 iz131 zk131 iu131 sz132 by132 ag132 so132 fl132_0 fl132_1 fl132_2 fl132_3 iz132 zk132 iu132 u133 sz133 by133 ag133 so133 iz133 zk133 iu133 sz134 by134 ag134 so134 fl134_0 iz134 zk134 iu134 sz135 by135 ag135 so135 fl135_0 iz135 zk135 iu135 u137 sz137 by137 ag137 so137 iz137 zk137 iu137 u138 sz138 by138 ag138 so138 iz138 zk138 iu138 u140 sz140 by140 ag140 so140 iz140 zk140 iu140 u141 sz141 by141 ag141 so141 iz141 zk141 iu141 sz142 by142 ag142 so142 fl142_0 fl142_1 fl142_2 fl142_3 fl142_4 fl142_5 fl142_6 fl142_7 fl142_8 fl142_9 fl142_10 iz142 zk142 iu142 sz143 by143 ag143 so143 fl143_0 fl143_1 fl143_2 fl143_3 fl143_4 fl143_5 fl143_6 fl143_7 fl143_8 fl143_9 fl143_10 iz143 zk143 iu143 if20 if57 if58 zv2 zv3 zv4 zv5 zv6 zv7 zv8 zv9 zv10 zv11 zv12 zv13 zv14 zv15 zv16 zv17 zv18 zv19 zv21 zv22 zv23 zv24 zv27 zv38 zv49 zv55 zv65 zv75 zv82 zv83 zv84 zv85 zv86 zv88 zv89 zv92 zv96 zv97 zv101 zv102 zv103 zv104 zv105 zv106 zv107 zv109 zv110 zv115 zv116 zv119 zv120 zv123 zv124 zv125 zv126 zv127 zv128 zv131 zv132 zv137 zv138 zv140 zv141 zv142 zv143
end Go.Proofs.YtdndgmcmmbjjkaaDoor

/- Which slots live behind each region, made by program (keeps2.py). -/
namespace Go.Proofs.YtdndgmcmmbjjkaaDoor
def kp3 (i : Nat) : List Nat := if i < 8 then if i < 4 then if i < 2 then if i < 1 then [1, 2] else [1, 2, 18] else if i < 3 then [4] else [1, 2, 26] else if i < 6 then if i < 5 then [4] else [1, 2, 5, 6] else if i < 7 then [1, 2, 5, 6, 7, 8] else [1, 2, 5, 6, 44] else if i < 12 then if i < 10 then if i < 9 then [4] else [1, 2, 6, 9, 10] else if i < 11 then [1, 61] else [4] else if i < 14 then if i < 13 then [1, 11, 12] else [1, 11, 12, 13, 14] else if i < 15 then [1, 11, 12, 13, 14, 15, 16] else [4]
def kp4 (i : Nat) : List Nat := if i < 2 then if i < 1 then [] else [1, 2] else if i < 3 then [1, 2, 3, 4] else if i < 4 then [1, 2, 3, 4, 5, 6] else [0]
def kp7 (i : Nat) : List Nat := if i < 9 then if i < 4 then if i < 2 then if i < 1 then [1] else [1, 9] else if i < 3 then [2, 3] else [1, 4] else if i < 6 then if i < 5 then [1, 4, 12] else [1, 4] else if i < 7 then [1, 4, 5] else if i < 8 then [1, 4, 5, 17] else [1, 4, 5] else if i < 13 then if i < 11 then if i < 10 then [1, 4, 5, 21] else [1, 4, 5] else if i < 12 then [1, 4, 5] else [1, 4] else if i < 15 then if i < 14 then [1, 4, 6] else [1, 4, 6, 38] else if i < 16 then [1, 4, 6] else if i < 17 then [1, 4, 6] else [2, 3]
def kp8 (i : Nat) : List Nat := if i < 9 then if i < 4 then if i < 2 then if i < 1 then [0, 2] else [0, 2, 4] else if i < 3 then [0, 2, 4, 5, 6] else [0, 2, 4, 5, 6, 25] else if i < 6 then if i < 5 then [0, 2, 4] else [0, 2, 4, 5, 6] else if i < 7 then [0, 2, 4, 5, 6, 7] else if i < 8 then [0, 2, 4, 6, 7, 8, 9, 10] else [0, 2, 4, 6, 7, 9, 10, 11, 12] else if i < 14 then if i < 11 then if i < 10 then [0, 2, 4, 6, 7, 10, 11, 12, 13, 14] else [0, 2, 4, 11, 13, 69] else if i < 12 then [2, 3] else if i < 13 then [0, 2, 15, 16] else [0, 2, 15, 79] else if i < 16 then if i < 15 then [2, 3] else [0, 2, 15, 17] else if i < 17 then [2, 15, 88] else if i < 18 then [2, 3] else [2, 3]
def kp10 (i : Nat) : List Nat := if i < 11 then if i < 5 then if i < 2 then if i < 1 then [0, 2] else [0, 2, 4, 5] else if i < 3 then [0, 2, 4, 5, 21] else if i < 4 then [0, 2, 4, 5] else [0, 2, 4, 5, 6] else if i < 8 then if i < 6 then [0, 2, 4, 5, 6, 7] else if i < 7 then [0, 2, 4, 5, 6, 7, 31] else [0, 2, 4, 6, 7, 8, 9] else if i < 9 then [0, 2, 4, 6, 7, 8, 9, 39] else if i < 10 then [2, 3] else [0, 2, 4, 6, 7, 9] else if i < 16 then if i < 13 then if i < 12 then [0, 2, 4, 5, 6, 7] else [0, 2, 4, 5, 6, 7, 50] else if i < 14 then [0, 2, 4, 5, 6, 7] else if i < 15 then [0, 2, 4, 5, 6, 7] else [0, 2, 4, 5, 6, 7, 61] else if i < 19 then if i < 17 then [0, 2, 4, 5, 6, 7] else if i < 18 then [0, 2, 10, 11] else [0, 2, 10, 11, 12, 13] else if i < 20 then [2, 10, 92] else if i < 21 then [2, 3] else [2, 3]
def kp12 (i : Nat) : List Nat := if i < 7 then if i < 3 then if i < 1 then [0, 1] else if i < 2 then [0, 1, 7] else [0, 1, 7, 17] else if i < 5 then if i < 4 then [4, 5] else [0, 1, 23] else if i < 6 then [4, 5] else [0, 1, 8] else if i < 11 then if i < 9 then if i < 8 then [1, 8, 24, 25, 26] else [1, 8, 24, 25, 26, 27] else if i < 10 then [1, 8, 9, 10, 24, 25, 26] else [1, 8, 9, 10, 24, 25, 26, 43] else if i < 13 then if i < 12 then [4, 5] else [1, 8, 24, 25, 26] else if i < 14 then [1, 8, 24, 25, 26] else [4, 5]
def kp17 (i : Nat) : List Nat := if i < 3 then if i < 1 then [0] else if i < 2 then [0, 5] else [2] else if i < 5 then if i < 4 then [0, 3] else [0, 3, 17] else if i < 6 then [2] else [2]
def kp20 (i : Nat) : List Nat := if i < 1 then [0, 1] else [4, 5, 6]
def kp21 (i : Nat) : List Nat := if i < 5 then if i < 2 then if i < 1 then [0] else [0, 4] else if i < 3 then [4, 10, 11, 12] else if i < 4 then [4, 10, 11, 12, 13] else [4, 6, 10, 11, 12] else if i < 8 then if i < 6 then [4, 7, 8, 10, 11, 12] else if i < 7 then [4, 7, 10, 11, 12, 22] else [2, 3] else if i < 9 then [4, 10, 11, 12] else if i < 10 then [4, 10, 11, 12] else [2, 3]
def kp23 (i : Nat) : List Nat := if i < 5 then if i < 2 then if i < 1 then [0, 1] else [0, 1, 6, 7] else if i < 3 then [0, 1, 6, 7, 20] else if i < 4 then [0, 6, 7] else [0, 6, 7, 8, 9] else if i < 8 then if i < 6 then [0, 6, 7, 8, 9, 45] else if i < 7 then [0, 6, 7, 8, 9] else [0, 6, 7, 8, 9] else if i < 9 then [6, 8, 9, 58] else if i < 10 then [4, 5] else [4, 5]
def kp31 (i : Nat) : List Nat := if i < 2 then if i < 1 then [0, 1] else [0, 1, 7] else if i < 3 then [0, 1, 7, 12] else if i < 4 then [4, 5, 6] else [4, 5, 6]
def kp44 (i : Nat) : List Nat := if i < 18 then if i < 9 then if i < 4 then if i < 2 then if i < 1 then [0, 1] else [0, 1, 5] else if i < 3 then [0, 1, 5, 16] else [4] else if i < 6 then if i < 5 then [0, 1, 5, 24] else [4] else if i < 7 then [0, 1, 5, 31] else if i < 8 then [4] else [0, 1, 5, 36] else if i < 13 then if i < 11 then if i < 10 then [4] else [0, 1, 5, 6] else if i < 12 then [0, 1, 5, 6, 7] else [0, 1, 5, 6, 7, 8] else if i < 15 then if i < 14 then [0, 1, 5, 6, 7, 8, 9] else [0, 1, 5, 6, 7, 8, 9, 10] else if i < 16 then [0, 1, 5, 6, 7, 8, 9, 10, 59] else if i < 17 then [0, 1, 5, 6, 7, 8, 9, 10, 64] else [0, 1, 5, 6, 7, 8, 9, 10, 11] else if i < 27 then if i < 22 then if i < 20 then if i < 19 then [0, 1, 5, 6, 7, 8, 9, 10, 11, 73] else [4] else if i < 21 then [0, 1, 5, 6, 7, 8, 9, 10] else [0, 1, 5, 6, 7, 8, 9, 10, 93] else if i < 24 then if i < 23 then [4] else [0, 1, 5, 6, 7, 8, 9, 10] else if i < 25 then [0, 1, 5, 6, 7, 8, 9, 10] else if i < 26 then [0, 1, 5, 6, 7, 8, 9, 10, 107] else [8, 12] else if i < 31 then if i < 29 then if i < 28 then [8, 12, 114] else [4] else if i < 30 then [4] else [0, 1, 5, 6, 7, 8, 9, 10, 132] else if i < 33 then if i < 32 then [8, 13] else [8, 13, 139] else if i < 34 then [4] else if i < 35 then [4] else [4]
def kp55 (i : Nat) : List Nat := if i < 1 then [0, 1] else [4]
end Go.Proofs.YtdndgmcmmbjjkaaDoor

/- Decimal numerals: written, and read again (plain). -/
namespace Go.Proofs.YtdndgmcmmbjjkaaDoor.Tx
open Go
/-- The number that digits spell behind 'acc'. -/
def decN (acc : Nat) : List UInt8 → Option Nat
  | [] => some acc
  | c :: r => if 48 ≤ c.toNat ∧ c.toNat ≤ 57 then decN (acc * 10 + (c.toNat - 48)) r else none
theorem decN_app : ∀ (l : List UInt8) (acc : Nat) (c : UInt8), decN acc (l ++ [c]) = (decN acc l).bind fun n => if 48 ≤ c.toNat ∧ c.toNat ≤ 57 then some (n * 10 + (c.toNat - 48)) else none
  | [], acc, c => by simp [decN]
  | b :: l, acc, c => by
    simp only [List.cons_append, decN]
    split
    · exact decN_app l _ c
    · rfl
theorem dig_toNat {d : Nat} (h : d < 10) : (UInt8.ofNat (48 + d)).toNat = 48 + d := by
  have := UInt8.toNat_ofNat' (n := 48 + d)
  omega
theorem decN_digits (u : Nat) : decN 0 (Lib.decDigits u) = some u := by
  induction u using Nat.strongRecOn with
  | _ u ih =>
    by_cases h : u < 10
    · rw [Lib.decDigits, dif_pos h]
      have hd := dig_toNat h
      simp only [decN, hd]
      rw [if_pos (by omega)]
      congr 1; omega
    · rw [Lib.decDigits, dif_neg h, decN_app, ih (u / 10) (by omega)]
      have hd := dig_toNat (show u % 10 < 10 by omega)
      simp only [Option.bind_some, hd]
      rw [if_pos (by omega)]
      congr 1; omega
theorem digits_mem (u : Nat) : ∀ c ∈ Lib.decDigits u, 48 ≤ c.toNat ∧ c.toNat ≤ 57 := by
  induction u using Nat.strongRecOn with
  | _ u ih =>
    by_cases h : u < 10
    · rw [Lib.decDigits, dif_pos h]
      intro c hc
      simp only [List.mem_singleton] at hc
      subst hc
      rw [dig_toNat h]; omega
    · rw [Lib.decDigits, dif_neg h]
      intro c hc
      rcases List.mem_append.1 hc with hc | hc
      · exact ih (u / 10) (by omega) c hc
      · simp only [List.mem_singleton] at hc
        subst hc
        rw [dig_toNat (by omega)]; omega
theorem digits_ne (u : Nat) : Lib.decDigits u ≠ [] := by
  rw [Lib.decDigits]; split <;> simp
theorem parse10 : ∀ (l : List UInt8) (acc u : Nat), decN acc l = some u → u < 18446744073709551616 → Lib.parseUint10 acc l = .ok u ∧ acc ≤ u
  | [], acc, u, h, _ => by cases h; exact ⟨rfl, Nat.le_refl _⟩
  | c :: r, acc, u, h, hu => by
    simp only [decN] at h
    split at h
    · rename_i hc
      obtain ⟨h1, h2⟩ := parse10 r _ u h hu
      refine ⟨?_, by omega⟩
      simp only [Lib.parseUint10]
      rw [if_pos hc, if_neg (by omega), if_neg (by omega)]
      exact h1
    · cases h
theorem digits_head {u : Nat} {c : UInt8} {r : List UInt8} (h : Lib.decDigits u = c :: r) : 48 ≤ c.toNat ∧ c.toNat ≤ 57 := digits_mem u c (by rw [h]; exact List.mem_cons_self ..)
theorem atoi_itoa {n : Int} (h0 : -9223372036854775808 ≤ n) (h1 : n ≤ 9223372036854775807) : Lib.atoiAll (Lib.itoa n) = .ok n := by
  have hp := (parse10 _ 0 _ (decN_digits n.natAbs) (by omega)).1
  by_cases h : n < 0
  · have e : Lib.itoa n = 45 :: Lib.decDigits n.natAbs := by unfold Lib.itoa; rw [if_pos h]
    have h45 : (45 : UInt8).toNat = 45 := rfl
    rw [e]
    simp only [Lib.atoiAll, Lib.parseMag, h45, or_true, if_true]
    rw [if_neg (digits_ne _), hp]
    simp only [not_true_eq_false, false_and, if_false, true_and]
    rw [if_neg (by omega)]
    congr 1; omega
  · have e : Lib.itoa n = Lib.decDigits n.natAbs := by unfold Lib.itoa; rw [if_neg h]; congr 1; omega
    rw [e]
    cases hd : Lib.decDigits n.natAbs with
    | nil => exact absurd hd (digits_ne _)
    | cons c r =>
      have hc := digits_head hd
      have n45 : ¬ c.toNat = 45 := by omega
      have n43 : ¬ c.toNat = 43 := by omega
      rw [hd] at hp
      simp only [Lib.atoiAll, Lib.parseMag, n45, n43, or_self, if_false]
      rw [if_neg (by simp), hp]
      simp only [not_false_eq_true, true_and, false_and, if_false]
      rw [if_neg (by omega)]
      congr 1; omega
end Go.Proofs.YtdndgmcmmbjjkaaDoor.Tx

/- Sizes, arrays, frames: what the functions compute, by lists of integers. -/
namespace Go.Proofs.YtdndgmcmmbjjkaaDoor
open Go Go.Fw
set_option maxRecDepth 20000

def sInt : ByteArray := ⟨#[105, 110, 116]⟩
def sBool : ByteArray := ⟨#[98, 111, 111, 108]⟩
def vld (s : ByteArray) (n : Int) : Bool := if eqS s sInt = true then decide (-2147483648 ≤ n ∧ n ≤ 2147483647) else if eqS s sBool = true then decide (n = 0 ∨ n = 1) else false
def badD (d : Int) : Bool := decide (d < 0) || decide (d > 4096)
/-- The product, and an error when a partial product is too great. -/
def prodS : List Int → Int → Int × Int
  | [], n => (n, 0)
  | d :: t, n => if n * d > 4096 then (0, 3) else prodS t (n * d)
def sizeS (l : List Int) : Int × Int := if l.length > 6 then (0, 13) else if l.any badD = true then (0, 2) else if l.any (fun d => 0 == d) = true then (0, 0) else prodS l 1
structure Arr where
  e : ByteArray
  d : List Int
  x : List Int
def arrV (a : Arr) : AV := .agg [.lit (.string a.e), .sl false 1 (ints .i64 a.d), .sl false 1 (ints .i64 a.x)]
def nilA : Arr := ⟨⟨#[]⟩, [], []⟩
instance : Inhabited Arr := ⟨nilA⟩
def arrs (l : List Arr) : List AV := l.map arrV
def ofE (a : Arr) : Int := if (eqS a.e sInt || eqS a.e sBool) = false then 12 else if (sizeS a.d).2 ≠ 0 then (sizeS a.d).2 else if (a.x.length : Int) ≠ (sizeS a.d).1 then 1 else if a.x.any (fun n => !vld a.e n) = true then 2 else 0
def ofS (a : Arr) : Arr × Int := if ofE a = 0 then (a, 0) else (nilA, ofE a)
theorem prodS_bd {l : List Int} {n : Int} (hl : ∀ d ∈ l, 0 ≤ d ∧ d ≤ 4096) (hn : 0 ≤ n ∧ n ≤ 4096) : 0 ≤ (prodS l n).1 ∧ (prodS l n).1 ≤ 4096 := by
  induction l generalizing n with
  | nil => exact hn
  | cons d t ih =>
    unfold prodS
    split
    · exact ⟨by decide, by decide⟩
    · rename_i h
      have h1 := hl d (by simp)
      exact ih (fun x hx => hl x (by simp [hx])) ⟨Int.mul_nonneg hn.1 h1.1, by omega⟩
theorem bad_no {l : List Int} (h : ¬ l.any badD = true) : ∀ d ∈ l, 0 ≤ d ∧ d ≤ 4096 := by
  intro d hd
  have : ¬ badD d = true := fun hb => h (List.any_eq_true.2 ⟨d, hd, hb⟩)
  unfold badD at this
  simp only [Bool.or_eq_true, decide_eq_true_eq, not_or] at this
  omega
theorem sizeS_bd (l : List Int) : 0 ≤ (sizeS l).1 ∧ (sizeS l).1 ≤ 4096 := by
  unfold sizeS
  split
  · exact ⟨by decide, by decide⟩
  split
  · exact ⟨by decide, by decide⟩
  split
  · exact ⟨by decide, by decide⟩
  rename_i h _
  exact prodS_bd (bad_no h) ⟨by decide, by decide⟩
theorem drop_getD {α : Type} {l : List α} {i : Nat} (z : α) (h : i < l.length) : l.drop i = l.getD i z :: l.drop (i + 1) := by
  rw [List.drop_eq_getElem_cons h]; simp [List.getD, h]
end Go.Proofs.YtdndgmcmmbjjkaaDoor

/- Validity of an element, sizes of dimensions, copies and comparisons of lists of integers. -/
namespace Go.Proofs.YtdndgmcmmbjjkaaDoor
open Go Go.Fw
set_option maxRecDepth 20000

noncomputable def E0 : Env := envOf (P := Tryd.prog) zer (fun _ => false) (fun _ => false) [] []
theorem E0_ok : EnvOk Tryd.prog E0 := envOk zer_ok
theorem eqS_iff {a b : ByteArray} : eqS a b = true ↔ a = b := by
  unfold eqS
  rw [beq_iff_eq]
  constructor
  · intro h
    apply ByteArray.ext
    apply Array.ext'
    simpa using h
  · intro h; rw [h]
theorem vld_pc {f : FuncId} {s : ByteArray} {n : Int} (hf : f = 40 ∨ f = 35) : PC Tryd.prog f [.lit (.string s), .lit (.int .i64 n)] (.lit (.bool (vld s n))) := by
  unfold vld sInt sBool
  by_cases h1 : eqS s ⟨#[105, 110, 116]⟩ = true
  · have hs : s = ⟨#[105, 110, 116]⟩ := eqS_iff.1 h1
    have h2 : eqS s ⟨#[98, 111, 111, 108]⟩ = false := by rw [hs]; rfl
    rw [if_pos h1]
    by_cases h3 : n ≥ -2147483648
    · have z3 : decide (n ≥ -2147483648) = true := decide_eq_true h3
      have e : decide (-2147483648 ≤ n ∧ n ≤ 2147483647) = decide (n ≤ 2147483647) := by simp; omega
      rw [e]
      rcases hf with rfl | rfl
      · skip
        refine pcO E0_ok (fun _ => [0, 1, 4, 5, 6, 14]) Tryd.func40 (h := fun KF => ?_)
        unfold E0
        repeat' (first
         | (with_reducible first | refine nx ?_ | refine t_seq fun K => ?_ | refine t_br (fun hc => ?_) fun hc => ?_ | refine t_bx ?_ | apply And.intro | intro vr)
         | ((with_reducible first | refine ny ?_ | refine t_dwh (h := fun K KL => ?_)); intros; simp only [go_sem, geff, h1, h2, z3]))
        refine end_ret rfl ?_
        simp only [fin, go_sem]
        exact LeA.refl _
      · skip
        refine pcO E0_ok (fun _ => [0, 1, 4, 6]) Tryd.func35 (h := fun KF => ?_)
        unfold E0
        repeat' (first
         | (with_reducible first | refine nx ?_ | refine t_seq fun K => ?_ | refine t_br (fun hc => ?_) fun hc => ?_ | refine t_bx ?_ | apply And.intro | intro vr)
         | ((with_reducible first | refine ny ?_ | refine t_dwh (h := fun K KL => ?_)); intros; simp only [go_sem, geff, h1, h2, z3]))
        refine end_ret rfl ?_
        simp only [fin, go_sem]
        exact LeA.refl _
    · have z3 : decide (n ≥ -2147483648) = false := decide_eq_false h3
      have e : decide (-2147483648 ≤ n ∧ n ≤ 2147483647) = false := by simp; omega
      rw [e]
      rcases hf with rfl | rfl
      · skip
        refine pcO E0_ok (fun _ => [0, 1, 4, 5, 6, 14]) Tryd.func40 (h := fun KF => ?_)
        unfold E0
        repeat' (first
         | (with_reducible first | refine nx ?_ | refine t_seq fun K => ?_ | refine t_br (fun hc => ?_) fun hc => ?_ | refine t_bx ?_ | apply And.intro | intro vr)
         | ((with_reducible first | refine ny ?_ | refine t_dwh (h := fun K KL => ?_)); intros; simp only [go_sem, geff, h1, h2, z3]))
        refine end_ret rfl ?_
        simp only [fin, go_sem]
        exact LeA.refl _
      · skip
        refine pcO E0_ok (fun _ => [0, 1, 4, 6]) Tryd.func35 (h := fun KF => ?_)
        unfold E0
        repeat' (first
         | (with_reducible first | refine nx ?_ | refine t_seq fun K => ?_ | refine t_br (fun hc => ?_) fun hc => ?_ | refine t_bx ?_ | apply And.intro | intro vr)
         | ((with_reducible first | refine ny ?_ | refine t_dwh (h := fun K KL => ?_)); intros; simp only [go_sem, geff, h1, h2, z3]))
        refine end_ret rfl ?_
        simp only [fin, go_sem]
        exact LeA.refl _
  · have h1' : eqS s ⟨#[105, 110, 116]⟩ = false := by simpa using h1
    rw [if_neg h1]
    by_cases h2 : eqS s ⟨#[98, 111, 111, 108]⟩ = true
    · rw [if_pos h2]
      by_cases h3 : n = 0
      · have z3 : (n == 0) = true := by rw [beq_iff_eq]; exact h3
        have e : decide (n = 0 ∨ n = 1) = true := decide_eq_true (.inl h3)
        rw [e]
        rcases hf with rfl | rfl
        · skip
          refine pcO E0_ok (fun _ => [0, 1, 4, 5, 6, 14]) Tryd.func40 (h := fun KF => ?_)
          unfold E0
          repeat' (first
           | (with_reducible first | refine nx ?_ | refine t_seq fun K => ?_ | refine t_br (fun hc => ?_) fun hc => ?_ | refine t_bx ?_ | apply And.intro | intro vr)
           | ((with_reducible first | refine ny ?_ | refine t_dwh (h := fun K KL => ?_)); intros; simp only [go_sem, geff, h1', h2, z3]))
          refine end_ret rfl ?_
          simp only [fin, go_sem]
          exact LeA.refl _
        · skip
          refine pcO E0_ok (fun _ => [0, 1, 4, 6]) Tryd.func35 (h := fun KF => ?_)
          unfold E0
          repeat' (first
           | (with_reducible first | refine nx ?_ | refine t_seq fun K => ?_ | refine t_br (fun hc => ?_) fun hc => ?_ | refine t_bx ?_ | apply And.intro | intro vr)
           | ((with_reducible first | refine ny ?_ | refine t_dwh (h := fun K KL => ?_)); intros; simp only [go_sem, geff, h1', h2, z3]))
          refine end_ret rfl ?_
          simp only [fin, go_sem]
          exact LeA.refl _
      · have z3 : (n == 0) = false := by rw [beq_eq_false_iff_ne]; exact h3
        have e : decide (n = 0 ∨ n = 1) = (n == 1) := by
          by_cases h4 : n = 1
          · subst h4; rfl
          · rw [decide_eq_false (by omega)]; symm; rw [beq_eq_false_iff_ne]; exact h4
        rw [e]
        rcases hf with rfl | rfl
        · skip
          refine pcO E0_ok (fun _ => [0, 1, 4, 5, 6, 14]) Tryd.func40 (h := fun KF => ?_)
          unfold E0
          repeat' (first
           | (with_reducible first | refine nx ?_ | refine t_seq fun K => ?_ | refine t_br (fun hc => ?_) fun hc => ?_ | refine t_bx ?_ | apply And.intro | intro vr)
           | ((with_reducible first | refine ny ?_ | refine t_dwh (h := fun K KL => ?_)); intros; simp only [go_sem, geff, h1', h2, z3]))
          refine end_ret rfl ?_
          simp only [fin, go_sem]
          exact LeA.refl _
        · skip
          refine pcO E0_ok (fun _ => [0, 1, 4, 6]) Tryd.func35 (h := fun KF => ?_)
          unfold E0
          repeat' (first
           | (with_reducible first | refine nx ?_ | refine t_seq fun K => ?_ | refine t_br (fun hc => ?_) fun hc => ?_ | refine t_bx ?_ | apply And.intro | intro vr)
           | ((with_reducible first | refine ny ?_ | refine t_dwh (h := fun K KL => ?_)); intros; simp only [go_sem, geff, h1', h2, z3]))
          refine end_ret rfl ?_
          simp only [fin, go_sem]
          exact LeA.refl _
    · have h2' : eqS s ⟨#[98, 111, 111, 108]⟩ = false := by simpa using h2
      rw [if_neg h2]
      rcases hf with rfl | rfl
      · skip
        refine pcO E0_ok (fun _ => [0, 1, 4, 5, 6, 14]) Tryd.func40 (h := fun KF => ?_)
        unfold E0
        repeat' (first
         | (with_reducible first | refine nx ?_ | refine t_seq fun K => ?_ | refine t_br (fun hc => ?_) fun hc => ?_ | refine t_bx ?_ | apply And.intro | intro vr)
         | ((with_reducible first | refine ny ?_ | refine t_dwh (h := fun K KL => ?_)); intros; simp only [go_sem, geff, h1', h2']))
        refine end_ret rfl ?_
        simp only [fin, go_sem]
        exact LeA.refl _
      · skip
        refine pcO E0_ok (fun _ => [0, 1, 4, 6]) Tryd.func35 (h := fun KF => ?_)
        unfold E0
        repeat' (first
         | (with_reducible first | refine nx ?_ | refine t_seq fun K => ?_ | refine t_br (fun hc => ?_) fun hc => ?_ | refine t_bx ?_ | apply And.intro | intro vr)
         | ((with_reducible first | refine ny ?_ | refine t_dwh (h := fun K KL => ?_)); intros; simp only [go_sem, geff, h1', h2']))
        refine end_ret rfl ?_
        simp only [fin, go_sem]
        exact LeA.refl _
noncomputable def con40 : PCon Tryd.prog where
  f := 40
  c := fun
    | [.lit (.string s), .lit (.int .i64 n)] => some (True, .lit (.bool (vld s n)))
    | _ => none
  ok := by
    intro args p r hc hp
    split at hc
    · cases hc; exact (vld_pc (.inl rfl))
    · cases hc
  fk := fk40
theorem con40_f : con40.f = 40 := rfl
theorem con40_c {s : ByteArray} {n : Int} : con40.c [.lit (.string s), .lit (.int .i64 n)] = some (True, .lit (.bool (vld s n))) := rfl
noncomputable def con35 : PCon Tryd.prog where
  f := 35
  c := fun
    | [.lit (.string s), .lit (.int .i64 n)] => some (True, .lit (.bool (vld s n)))
    | _ => none
  ok := by
    intro args p r hc hp
    split at hc
    · cases hc; exact (vld_pc (.inr rfl))
    · cases hc
  fk := fk35
theorem con35_f : con35.f = 35 := rfl
theorem con35_c {s : ByteArray} {n : Int} : con35.c [.lit (.string s), .lit (.int .i64 n)] = some (True, .lit (.bool (vld s n))) := rfl
/-- Does any hold, from a place on? -/
def idxG (p : Int → Bool) : List Int → Int → Int
  | [], _ => -1
  | d :: t, i => if p d = true then i else idxG p t (i + 1)
theorem idxG_any (p : Int → Bool) : ∀ (l : List Int) (i : Int), 0 ≤ i → decide (idxG p l i ≥ 0) = l.any p
  | [], _, _ => rfl
  | d :: t, i, hi => by
    unfold idxG
    by_cases h : p d = true
    · rw [if_pos h, List.any_cons, h, decide_eq_true hi]; rfl
    · rw [if_neg h, idxG_any p t (i + 1) (by omega), List.any_cons]
      simp only [Bool.not_eq_true] at h
      rw [h]; rfl
theorem index_pc {l : List Int} {v : Int} (hl : l.length ≤ 1000000) : PC Tryd.prog 49 [.sl false 1 (ints .i64 l), .lit (.int .i64 v)] (.lit (.int .i64 (idxG (fun d => v == d) l 0))) := by
  generalize hR : idxG (fun d => v == d) l 0 = R
  refine pcO E0_ok (fun _ => [0, 1, 4, 5, 7, 8, 9, 16]) Tryd.func49 (h := fun KF => ?_)
  unfold E0
  repeat' (first
   | (with_reducible first | refine nx ?_ | refine t_seq fun K => ?_ | refine t_br (fun hc => ?_) fun hc => ?_ | refine t_bx ?_ | apply And.intro | intro vr)
   | ((with_reducible first | refine ny ?_ | refine t_dwh (h := fun K KL => ?_)); intros; simp only [go_sem, geff]))
  refine t_loop (ι := { i : Nat // i ≤ l.length ∧ idxG (fun d => v == d) (l.drop i) i = R }) (fun i => ⟨upd (upd (upd (upd topF 8 (.lit (.int .i64 i.1))) 7 (.lit (.int .i64 l.length))) 1 (.lit (.int .i64 v))) 0 (.sl false 1 (ints .i64 l)), []⟩) (fun i => l.length - i.1) ⟨0, by omega, hR⟩ ?_ ?_
  · skip
    (refine Le.frame ?_; repeat' (first | exact leF_top _ | (with_reducible refine leF_sl ?_ ?_) | (refine leF_upd (LeR.of_eq ?_) ?_))) <;> (try (simp only [go_sem]; try rfl))
  · rintro ⟨i, hi, hF⟩ K0
    rcases Nat.lt_or_ge i l.length with hc | hc
    · have g1 : decide ((i : Int) < (l.length : Int)) = true := decide_eq_true (by omega)
      have g2 := ints_getD .i64 l i hc
      rw [drop_getD 0 hc, idxG] at hF
      generalize l.getD i 0 = d at g2 hF
      by_cases he : (v == d) = true
      · rw [if_pos he] at hF
        subst hF
        repeat' (first
         | (with_reducible first | refine nx ?_ | refine t_seq fun K => ?_ | refine t_br (fun hc => ?_) fun hc => ?_ | refine t_bx ?_ | apply And.intro | intro vr)
         | ((with_reducible first | refine ny ?_ | refine t_dwh (h := fun K KL => ?_)); intros; simp only [go_sem, geff, g1, g2, he, Int.toNat_natCast]))
        all_goals try exact om
        refine end_ret rfl ?_
        simp only [fin, go_sem]
        exact LeA.refl _
      · rw [if_neg he] at hF
        have he' : (v == d) = false := by simpa using he
        repeat' (first
         | (with_reducible first | refine nx ?_ | refine t_seq fun K => ?_ | refine t_br (fun hc => ?_) fun hc => ?_ | refine t_bx ?_ | apply And.intro | intro vr)
         | ((with_reducible first | refine ny ?_ | refine t_dwh (h := fun K KL => ?_)); intros; simp only [go_sem, geff, g1, g2, he', Int.toNat_natCast]))
        all_goals try exact om
        refine ⟨⟨i + 1, by omega, by rw [← hF]; congr 1⟩, by simp only; omega, ?_⟩
        (refine Le.frame ?_; repeat' (first | exact leF_top _ | (with_reducible refine leF_sl ?_ ?_) | (refine leF_upd (LeR.of_eq ?_) ?_))) <;> (try (simp only [go_sem]; try rfl))
    · have g1 : decide ((i : Int) < (l.length : Int)) = false := decide_eq_false (by omega)
      rw [List.drop_eq_nil_of_le hc, idxG] at hF
      subst hF
      repeat' (first
       | (with_reducible first | refine nx ?_ | refine t_seq fun K => ?_ | refine t_br (fun hc => ?_) fun hc => ?_ | refine t_bx ?_ | apply And.intro | intro vr)
       | ((with_reducible first | refine ny ?_ | refine t_dwh (h := fun K KL => ?_)); intros; simp only [go_sem, geff, g1]))
      refine end_ret rfl ?_
      simp only [fin, go_sem]
      exact LeA.refl _
noncomputable def con49 : PCon Tryd.prog where
  f := 49
  c := fun
    | [xl, .lit (.int .i64 v)] => match slK .i64 xl with | some l => some (l.length ≤ 1000000, .lit (.int .i64 (idxG (fun d => v == d) l 0))) | _ => none
    | _ => none
  ok := by
    intro args p r hc hp
    split at hc
    · split at hc
      · rename_i hl
        cases hc
        exact PC.weak (index_pc hp) ⟨slK_le hl, LeA.refl _, trivial⟩
      · cases hc
    · cases hc
  fk := fk49
theorem con49_f : con49.f = 49 := rfl
theorem con49_c {xl : AV} {v : Int} : con49.c [xl, .lit (.int .i64 v)] = match slK .i64 xl with | some l => some (l.length ≤ 1000000, .lit (.int .i64 (idxG (fun d => v == d) l 0))) | _ => none := rfl
noncomputable def E1 : Env := envOf (P := Tryd.prog) zer (fun _ => false) (fun _ => false) [con49] []
theorem E1_ok : EnvOk Tryd.prog E1 := envOk zer_ok
theorem contains_pc {l : List Int} {v : Int} (hl : l.length ≤ 1000000) : PC Tryd.prog 37 [.sl false 1 (ints .i64 l), .lit (.int .i64 v)] (.lit (.bool (l.any fun d => v == d))) := by
  have h := idxG_any (fun d => v == d) l 0 (by omega)
  refine pcO E1_ok (fun _ => [0, 1, 4]) Tryd.func37 (h := fun KF => ?_)
  unfold E1
  repeat' (first
   | (with_reducible first | refine nx ?_ | refine t_seq fun K => ?_ | refine t_br (fun hc => ?_) fun hc => ?_ | refine t_bx ?_ | apply And.intro | intro vr)
   | ((with_reducible first | refine ny ?_ | refine t_dwh (h := fun K KL => ?_)); intros; simp only [go_sem, geff, con49_f, con49_c, slK_sl, h]))
  all_goals try exact om
  refine end_ret rfl ?_
  simp only [fin, go_sem]
  exact LeA.refl _
noncomputable def con37 : PCon Tryd.prog where
  f := 37
  c := fun
    | [xl, .lit (.int .i64 v)] => match slK .i64 xl with | some l => some (l.length ≤ 1000000, .lit (.bool (l.any fun d => v == d))) | _ => none
    | _ => none
  ok := by
    intro args p r hc hp
    split at hc
    · split at hc
      · rename_i hl
        cases hc
        exact PC.weak (contains_pc hp) ⟨slK_le hl, LeA.refl _, trivial⟩
      · cases hc
    · cases hc
  fk := fk37
theorem con37_f : con37.f = 37 := rfl
theorem con37_c {xl : AV} {v : Int} : con37.c [xl, .lit (.int .i64 v)] = match slK .i64 xl with | some l => some (l.length ≤ 1000000, .lit (.bool (l.any fun d => v == d))) | _ => none := rfl
theorem clone_pc {l : List Int} (hl : l.length ≤ 1000000) : PC Tryd.prog 27 [.sl false 1 (ints .i64 l)] (.sl false 1 (ints .i64 l)) := by
  refine pcO E0_ok (fun _ => [0, 2, 4]) Tryd.func27 (h := fun KF => ?_)
  unfold E0
  repeat' (first
   | (with_reducible first | refine nx ?_ | refine t_seq fun K => ?_ | refine t_br (fun hc => ?_) fun hc => ?_ | refine t_bx ?_ | apply And.intro | intro vr)
   | ((with_reducible first | refine ny ?_ | refine t_dwh (h := fun K KL => ?_)); intros; simp only [go_sem, geff]))
  all_goals try exact om
  · skip
    refine end_ret rfl ?_
    simp only [fin, go_sem]
    rw [show ints .i64 l = [] from by assumption]
    exact LeA.nil false 1
  · skip
    refine end_ret rfl ?_
    simp only [fin, go_sem]
    exact LeA.refl _
noncomputable def con27 : PCon Tryd.prog where
  f := 27
  c := fun
    | [xl] => match slK .i64 xl with | some l => some (l.length ≤ 1000000, .sl false 1 (ints .i64 l)) | _ => none
    | _ => none
  ok := by
    intro args p r hc hp
    split at hc
    · split at hc
      · rename_i hl
        cases hc
        exact PC.weak (clone_pc hp) ⟨slK_le hl, trivial⟩
      · cases hc
    · cases hc
  fk := fk27
theorem con27_f : con27.f = 27 := rfl
theorem con27_c {xl : AV} : con27.c [xl] = match slK .i64 xl with | some l => some (l.length ≤ 1000000, .sl false 1 (ints .i64 l)) | _ => none := rfl
theorem copy_pc {l : List Int} (hl : l.length ≤ 1000000) : PC Tryd.prog 36 [.sl false 1 (ints .i64 l)] (.sl false 1 (ints .i64 l)) := by
  refine pcO E0_ok (fun _ => [0, 2]) Tryd.func36 (h := fun KF => ?_)
  unfold E0
  repeat' (first
   | (with_reducible first | refine nx ?_ | refine t_seq fun K => ?_ | refine t_br (fun hc => ?_) fun hc => ?_ | refine t_bx ?_ | apply And.intro | intro vr)
   | ((with_reducible first | refine ny ?_ | refine t_dwh (h := fun K KL => ?_)); intros; simp only [go_sem, geff]))
  all_goals try exact om
  refine end_ret rfl ?_
  simp only [fin, go_sem]
  exact LeA.refl _
noncomputable def con36 : PCon Tryd.prog where
  f := 36
  c := fun
    | [xl] => match slK .i64 xl with | some l => some (l.length ≤ 1000000, .sl false 1 (ints .i64 l)) | _ => none
    | _ => none
  ok := by
    intro args p r hc hp
    split at hc
    · split at hc
      · rename_i hl
        cases hc
        exact PC.weak (copy_pc hp) ⟨slK_le hl, trivial⟩
      · cases hc
    · cases hc
  fk := fk36
theorem con36_f : con36.f = 36 := rfl
theorem con36_c {xl : AV} : con36.c [xl] = match slK .i64 xl with | some l => some (l.length ≤ 1000000, .sl false 1 (ints .i64 l)) | _ => none := rfl
theorem drop_ne {l m : List Int} {i : Nat} (hl : i < l.length) (hm : i < m.length) (h : (l.getD i 0 != m.getD i 0) = true) : decide (l.drop i = m.drop i) = false := by
  rw [drop_getD 0 hl, drop_getD 0 hm]
  rw [bne_iff_ne] at h
  exact decide_eq_false fun e => h (List.cons.inj e).1
theorem drop_eq {l m : List Int} {i : Nat} (hl : i < l.length) (hm : i < m.length) (h : (l.getD i 0 != m.getD i 0) = false) : decide (l.drop i = m.drop i) = decide (l.drop (i + 1) = m.drop (i + 1)) := by
  rw [drop_getD 0 hl, drop_getD 0 hm]
  rw [bne_eq_false_iff_eq] at h
  rw [h]
  simp
theorem same_pc {l m : List Int} (hl : l.length ≤ 1000000) : PC Tryd.prog 22 [.sl false 1 (ints .i64 l), .sl false 1 (ints .i64 m)] (.lit (.bool (decide (l = m)))) := by
  by_cases hn : l.length = m.length
  · have g0 : ((l.length : Int) != (m.length : Int)) = false := by rw [bne_eq_false_iff_eq]; omega
    generalize hR : decide (l = m) = R
    refine pcO E0_ok (fun _ => [0, 1, 4, 5, 10, 14, 25]) Tryd.func22 (h := fun KF => ?_)
    unfold E0
    repeat' (first
     | (with_reducible first | refine nx ?_ | refine t_seq fun K => ?_ | refine t_br (fun hc => ?_) fun hc => ?_ | refine t_bx ?_ | apply And.intro | intro vr)
     | ((with_reducible first | refine ny ?_ | refine t_dwh (h := fun K KL => ?_)); intros; simp only [go_sem, geff, g0]))
    refine t_loop (ι := { i : Nat // i ≤ l.length ∧ decide (l.drop i = m.drop i) = R }) (fun i => ⟨upd (upd (upd topF 1 (.sl false 1 (ints .i64 m))) 0 (.sl false 1 (ints .i64 l))) 5 (.lit (.int .i64 i.1)), []⟩) (fun i => l.length - i.1) ⟨0, by omega, hR⟩ ?_ ?_
    · skip
      (refine Le.frame ?_; repeat' (first | exact leF_top _ | (with_reducible refine leF_sl ?_ ?_) | (refine leF_upd (LeR.of_eq ?_) ?_))) <;> (try (simp only [go_sem]; try rfl))
    · rintro ⟨i, hi, hF⟩ K0
      rcases Nat.lt_or_ge i l.length with hc | hc
      · have g1 : decide ((i : Int) < (l.length : Int)) = true := decide_eq_true (by omega)
        have g2 := ints_getD .i64 l i hc
        have g3 := ints_getD .i64 m i (by omega)
        by_cases he : (l.getD i 0 != m.getD i 0) = true
        · rw [drop_ne hc (by omega) he] at hF
          subst hF
          repeat' (first
           | (with_reducible first | refine nx ?_ | refine t_seq fun K => ?_ | refine t_br (fun hc => ?_) fun hc => ?_ | refine t_bx ?_ | apply And.intro | intro vr)
           | ((with_reducible first | refine ny ?_ | refine t_dwh (h := fun K KL => ?_)); intros; simp only [go_sem, geff, g1, g2, g3, he, Int.toNat_natCast]))
          all_goals try exact om
          refine end_ret rfl ?_
          simp only [fin, go_sem]
          exact LeA.refl _
        · have he' : (l.getD i 0 != m.getD i 0) = false := by simpa using he
          rw [drop_eq hc (by omega) he'] at hF
          repeat' (first
           | (with_reducible first | refine nx ?_ | refine t_seq fun K => ?_ | refine t_br (fun hc => ?_) fun hc => ?_ | refine t_bx ?_ | apply And.intro | intro vr)
           | ((with_reducible first | refine ny ?_ | refine t_dwh (h := fun K KL => ?_)); intros; simp only [go_sem, geff, g1, g2, g3, he', Int.toNat_natCast]))
          all_goals try exact om
          refine ⟨⟨i + 1, by omega, hF⟩, by simp only; omega, ?_⟩
          (refine Le.frame ?_; repeat' (first | exact leF_top _ | (with_reducible refine leF_sl ?_ ?_) | (refine leF_upd (LeR.of_eq ?_) ?_))) <;> (try (simp only [go_sem]; try rfl))
      · have g1 : decide ((i : Int) < (l.length : Int)) = false := decide_eq_false (by omega)
        rw [List.drop_eq_nil_of_le hc, List.drop_eq_nil_of_le (by omega)] at hF
        subst hF
        repeat' (first
         | (with_reducible first | refine nx ?_ | refine t_seq fun K => ?_ | refine t_br (fun hc => ?_) fun hc => ?_ | refine t_bx ?_ | apply And.intro | intro vr)
         | ((with_reducible first | refine ny ?_ | refine t_dwh (h := fun K KL => ?_)); intros; simp only [go_sem, geff, g1]))
        refine end_ret rfl ?_
        simp only [fin, go_sem]
        exact LeA.refl _
  · have g0 : ((l.length : Int) != (m.length : Int)) = true := by rw [bne_iff_ne]; omega
    have : decide (l = m) = false := decide_eq_false fun e => hn (by rw [e])
    rw [this]
    refine pcO E0_ok (fun _ => [0, 1, 4, 5, 10, 14, 25]) Tryd.func22 (h := fun KF => ?_)
    unfold E0
    repeat' (first
     | (with_reducible first | refine nx ?_ | refine t_seq fun K => ?_ | refine t_br (fun hc => ?_) fun hc => ?_ | refine t_bx ?_ | apply And.intro | intro vr)
     | ((with_reducible first | refine ny ?_ | refine t_dwh (h := fun K KL => ?_)); intros; simp only [go_sem, geff, g0]))
    refine end_ret rfl ?_
    simp only [fin, go_sem]
    exact LeA.refl _
noncomputable def con22 : PCon Tryd.prog where
  f := 22
  c := fun
    | [xl, xm] => match slK .i64 xl, slK .i64 xm with | some l, some m => some (l.length ≤ 1000000, .lit (.bool (decide (l = m)))) | _, _ => none
    | _ => none
  ok := by
    intro args p r hc hp
    split at hc
    · split at hc
      · rename_i hl hm
        cases hc
        exact PC.weak (same_pc hp) ⟨slK_le hl, slK_le hm, trivial⟩
      · cases hc
    · cases hc
  fk := fk22
theorem con22_f : con22.f = 22 := rfl
theorem con22_c {xl : AV} {xm : AV} : con22.c [xl, xm] = match slK .i64 xl, slK .i64 xm with | some l, some m => some (l.length ≤ 1000000, .lit (.bool (decide (l = m)))) | _, _ => none := rfl
end Go.Proofs.YtdndgmcmmbjjkaaDoor

/- Sizes of dimensions. -/
namespace Go.Proofs.YtdndgmcmmbjjkaaDoor
open Go Go.Fw
set_option maxRecDepth 20000

def szV (p : Int × Int) : AV := .tup [.lit (.int .i64 p.1), .lit (.int .i64 p.2)]
theorem mul_bd {n d : Int} (hn : 0 ≤ n ∧ n ≤ 4096) (hd : 0 ≤ d ∧ d ≤ 4096) : 0 ≤ n * d ∧ n * d ≤ 16777216 := by
  constructor
  · exact Int.mul_nonneg hn.1 hd.1
  · have := Int.mul_le_mul hn.2 hd.2 hd.1 (by omega)
    omega
structure Ls (l : List Int) (G : Int × Int) where
  i : Nat
  n : Int
  hi : i ≤ l.length
  hn : 0 ≤ n ∧ n ≤ 4096
  hF : prodS (l.drop i) n = G
noncomputable def E2 : Env := envOf (P := Tryd.prog) zer (fun _ => false) (fun _ => false) [con37] []
theorem E2_ok : EnvOk Tryd.prog E2 := envOk zer_ok
set_option maxHeartbeats 1000000 in
theorem size_pc {l : List Int} (hl : l.length ≤ 1000000) : PC Tryd.prog 25 [.sl false 1 (ints .i64 l)] (szV (sizeS l)) := by
  unfold sizeS
  by_cases h6 : l.length > 6
  · have g0 : decide ((l.length : Int) > 6) = true := decide_eq_true (by omega)
    rw [if_pos h6]
    refine pcO E2_ok (fun _ => [0, 2, 3, 5, 6, 8, 11, 12, 13, 14, 15, 23, 26, 27, 28, 29, 30, 37]) Tryd.func25 (h := fun KF => ?_)
    unfold E2
    repeat' (first
     | (with_reducible first | refine nx ?_ | refine t_seq fun K => ?_ | refine t_br (fun hc => ?_) fun hc => ?_ | refine t_bx ?_ | apply And.intro | intro vr)
     | ((with_reducible first | refine ny ?_ | refine t_dwh (h := fun K KL => ?_)); intros; simp only [go_sem, geff, con37_f, g0]))
    refine end_ret rfl ?_
    simp only [fin, go_sem, szV]
    exact LeA.refl _
  · have g0 : decide ((l.length : Int) > 6) = false := decide_eq_false (by omega)
    rw [if_neg h6]
    generalize hB : l.any badD = Bb
    generalize hG : prodS l 1 = G
    refine pcO E2_ok (fun _ => [0, 2, 3, 5, 6, 8, 11, 12, 13, 14, 15, 23, 26, 27, 28, 29, 30, 37]) Tryd.func25 (h := fun KF => ?_)
    unfold E2
    repeat' (first
     | (with_reducible first | refine nx ?_ | refine t_seq fun K => ?_ | refine t_br (fun hc => ?_) fun hc => ?_ | refine t_bx ?_ | apply And.intro | intro vr)
     | ((with_reducible first | refine ny ?_ | refine t_dwh (h := fun K KL => ?_)); intros; simp only [go_sem, geff, con37_f, g0]))
    refine t_loop (ι := { i : Nat // i ≤ l.length ∧ (l.drop i).any badD = Bb }) (fun i => ⟨upd (upd (upd (upd topF 14 (.lit (.int .i64 i.1))) 13 (.lit (.int .i64 l.length))) 12 (.sl false 1 (ints .i64 l))) 0 (.sl false 1 (ints .i64 l)), []⟩) (fun i => l.length - i.1) ⟨0, by omega, hB⟩ ?_ ?_
    · skip
      (refine Le.frame ?_; repeat' (first | exact leF_top _ | (with_reducible refine leF_sl ?_ ?_) | (refine leF_upd (LeR.of_eq ?_) ?_))) <;> (try (simp only [go_sem]; try rfl))
    · rintro ⟨i, hi, hF⟩ K0
      rcases Nat.lt_or_ge i l.length with hc | hc
      · have g1 : decide ((i : Int) < (l.length : Int)) = true := decide_eq_true (by omega)
        have g2 := ints_getD .i64 l i hc
        rw [drop_getD 0 hc, List.any_cons] at hF
        generalize l.getD i 0 = d at g2 hF
        rw [show badD d = (decide (d < 0) || decide (d > 4096)) from rfl] at hF
        by_cases d1 : d < 0
        · have d1' : decide (d < 0) = true := decide_eq_true d1
          have : Bb = true := by rw [← hF, d1']; rfl
          subst this
          repeat' (first
           | (with_reducible first | refine nx ?_ | refine t_seq fun K => ?_ | refine t_br (fun hc => ?_) fun hc => ?_ | refine t_bx ?_ | apply And.intro | intro vr)
           | ((with_reducible first | refine ny ?_ | refine t_dwh (h := fun K KL => ?_)); intros; simp only [go_sem, geff, con37_f, g1, g2, d1', Int.toNat_natCast]))
          all_goals try exact om
          refine end_ret rfl ?_
          simp only [fin, go_sem, szV]
          exact LeA.refl _
        · have d1' : decide (d < 0) = false := decide_eq_false d1
          by_cases d2 : d > 4096
          · have d2' : decide (d > 4096) = true := decide_eq_true d2
            have : Bb = true := by rw [← hF, d1', d2']; rfl
            subst this
            repeat' (first
             | (with_reducible first | refine nx ?_ | refine t_seq fun K => ?_ | refine t_br (fun hc => ?_) fun hc => ?_ | refine t_bx ?_ | apply And.intro | intro vr)
             | ((with_reducible first | refine ny ?_ | refine t_dwh (h := fun K KL => ?_)); intros; simp only [go_sem, geff, con37_f, g1, g2, d1', d2', Int.toNat_natCast]))
            all_goals try exact om
            refine end_ret rfl ?_
            simp only [fin, go_sem, szV]
            exact LeA.refl _
          · have d2' : decide (d > 4096) = false := decide_eq_false d2
            rw [d1', d2', Bool.false_or, Bool.false_or] at hF
            repeat' (first
             | (with_reducible first | refine nx ?_ | refine t_seq fun K => ?_ | refine t_br (fun hc => ?_) fun hc => ?_ | refine t_bx ?_ | apply And.intro | intro vr)
             | ((with_reducible first | refine ny ?_ | refine t_dwh (h := fun K KL => ?_)); intros; simp only [go_sem, geff, con37_f, g1, g2, d1', d2', Int.toNat_natCast]))
            all_goals try exact om
            refine ⟨⟨i + 1, by omega, hF⟩, by simp only; omega, ?_⟩
            (refine Le.frame ?_; repeat' (first | exact leF_top _ | (with_reducible refine leF_sl ?_ ?_) | (refine leF_upd (LeR.of_eq ?_) ?_))) <;> (try (simp only [go_sem]; try rfl))
      · have g1 : decide ((i : Int) < (l.length : Int)) = false := decide_eq_false (by omega)
        rw [List.drop_eq_nil_of_le hc, List.any_nil] at hF
        subst hF
        have hd := bad_no (by rw [hB]; simp)
        by_cases h0 : (l.any fun d => 0 == d) = true
        · skip
          repeat' (first
           | (with_reducible first | refine nx ?_ | refine t_seq fun K => ?_ | refine t_br (fun hc => ?_) fun hc => ?_ | refine t_bx ?_ | apply And.intro | intro vr)
           | ((with_reducible first | refine ny ?_ | refine t_dwh (h := fun K KL => ?_)); intros; simp only [go_sem, geff, con37_f, con37_c, slK_sl, g1, h0]))
          all_goals try exact om
          refine end_ret rfl ?_
          simp only [fin, go_sem, szV, h0, Bool.false_eq_true]
          exact LeA.refl _
        · have h0' : (l.any fun d => 0 == d) = false := Bool.eq_false_iff.2 h0
          repeat' (first
           | (with_reducible first | refine nx ?_ | refine t_seq fun K => ?_ | refine t_br (fun hc => ?_) fun hc => ?_ | refine t_bx ?_ | apply And.intro | intro vr)
           | ((with_reducible first | refine ny ?_ | refine t_dwh (h := fun K KL => ?_)); intros; simp only [go_sem, geff, con37_f, con37_c, slK_sl, g1, h0']))
          all_goals try exact om
          refine t_loop (ι := Ls l G) (fun i => ⟨upd (upd (upd (upd topF 29 (.lit (.int .i64 i.i))) 28 (.lit (.int .i64 l.length))) 27 (.sl false 1 (ints .i64 l))) 6 (.lit (.int .i64 i.n)), []⟩) (fun i => l.length - i.i) ⟨0, 1, by omega, by omega, hG⟩ ?_ ?_
          · skip
            (refine Le.frame ?_; repeat' (first | exact leF_top _ | (with_reducible refine leF_sl ?_ ?_) | (refine leF_upd (LeR.of_eq ?_) ?_))) <;> (try (simp only [go_sem]; try rfl))
          · rintro ⟨i, n, hi, hn, hF⟩ K1
            rcases Nat.lt_or_ge i l.length with hc | hc
            · have g1 : decide ((i : Int) < (l.length : Int)) = true := decide_eq_true (by omega)
              have g2 := ints_getD .i64 l i hc
              have hd' := hd (l.getD i 0) (by rw [List.getD_eq_getElem?_getD, List.getElem?_eq_getElem hc]; exact List.getElem_mem _)
              rw [drop_getD 0 hc, prodS] at hF
              generalize l.getD i 0 = d at g2 hF hd'
              have hb := mul_bd hn hd'
              by_cases hp : n * d > 4096
              · have hp' : decide (n * d > 4096) = true := decide_eq_true hp
                rw [if_pos hp] at hF
                subst hF
                repeat' (first
                 | (with_reducible first | refine nx ?_ | refine t_seq fun K => ?_ | refine t_br (fun hc => ?_) fun hc => ?_ | refine t_bx ?_ | apply And.intro | intro vr)
                 | ((with_reducible first | refine ny ?_ | refine t_dwh (h := fun K KL => ?_)); intros; simp only [go_sem, geff, con37_f, g1, g2, hp', Int.toNat_natCast]))
                all_goals try exact om
                refine end_ret rfl ?_
                simp only [fin, go_sem, szV, h0', Bool.false_eq_true]
                exact LeA.refl _
              · have hp' : decide (n * d > 4096) = false := decide_eq_false hp
                rw [if_neg hp] at hF
                repeat' (first
                 | (with_reducible first | refine nx ?_ | refine t_seq fun K => ?_ | refine t_br (fun hc => ?_) fun hc => ?_ | refine t_bx ?_ | apply And.intro | intro vr)
                 | ((with_reducible first | refine ny ?_ | refine t_dwh (h := fun K KL => ?_)); intros; simp only [go_sem, geff, con37_f, g1, g2, hp', Int.toNat_natCast]))
                all_goals try exact om
                refine ⟨⟨i + 1, n * d, by omega, by omega, hF⟩, by simp only; omega, ?_⟩
                (refine Le.frame ?_; repeat' (first | exact leF_top _ | (with_reducible refine leF_sl ?_ ?_) | (refine leF_upd (LeR.of_eq ?_) ?_))) <;> (try (simp only [go_sem]; try rfl))
            · have g1 : decide ((i : Int) < (l.length : Int)) = false := decide_eq_false (by omega)
              rw [List.drop_eq_nil_of_le hc, prodS] at hF
              subst hF
              repeat' (first
               | (with_reducible first | refine nx ?_ | refine t_seq fun K => ?_ | refine t_br (fun hc => ?_) fun hc => ?_ | refine t_bx ?_ | apply And.intro | intro vr)
               | ((with_reducible first | refine ny ?_ | refine t_dwh (h := fun K KL => ?_)); intros; simp only [go_sem, geff, con37_f, g1]))
              refine end_ret rfl ?_
              simp only [fin, go_sem, szV, h0', Bool.false_eq_true]
              exact LeA.refl _
noncomputable def con25 : PCon Tryd.prog where
  f := 25
  c := fun
    | [xl] => match slK .i64 xl with | some l => some (l.length ≤ 1000000, szV (sizeS l)) | _ => none
    | _ => none
  ok := by
    intro args p r hc hp
    split at hc
    · split at hc
      · rename_i hl
        cases hc
        exact PC.weak (size_pc hp) ⟨slK_le hl, trivial⟩
      · cases hc
    · cases hc
  fk := fk25
theorem con25_f : con25.f = 25 := rfl
theorem con25_c {xl : AV} : con25.c [xl] = match slK .i64 xl with | some l => some (l.length ≤ 1000000, szV (sizeS l)) | _ => none := rfl
set_option maxHeartbeats 1000000 in
theorem rsize_pc {l : List Int} (hl : l.length ≤ 1000000) : PC Tryd.prog 34 [.sl false 1 (ints .i64 l)] (szV (sizeS l)) := by
  unfold sizeS
  by_cases h6 : l.length > 6
  · have g0 : decide ((l.length : Int) > 6) = true := decide_eq_true (by omega)
    rw [if_pos h6]
    refine pcO E0_ok (fun _ => [0, 2, 3, 4, 5, 6, 7, 10, 14, 28, 37, 41, 51]) Tryd.func34 (h := fun KF => ?_)
    unfold E0
    repeat' (first
     | (with_reducible first | refine nx ?_ | refine t_seq fun K => ?_ | refine t_br (fun hc => ?_) fun hc => ?_ | refine t_bx ?_ | apply And.intro | intro vr)
     | ((with_reducible first | refine ny ?_ | refine t_dwh (h := fun K KL => ?_)); intros; simp only [go_sem, geff, g0]))
    refine end_ret rfl ?_
    simp only [fin, go_sem, szV]
    exact LeA.refl _
  · have g0 : decide ((l.length : Int) > 6) = false := decide_eq_false (by omega)
    rw [if_neg h6]
    generalize hB : l.any badD = Bb
    generalize hG : prodS l 1 = G
    generalize hZ : (l.any fun d => 0 == d) = Z
    refine pcO E0_ok (fun _ => [0, 2, 3, 4, 5, 6, 7, 10, 14, 28, 37, 41, 51]) Tryd.func34 (h := fun KF => ?_)
    unfold E0
    repeat' (first
     | (with_reducible first | refine nx ?_ | refine t_seq fun K => ?_ | refine t_br (fun hc => ?_) fun hc => ?_ | refine t_bx ?_ | apply And.intro | intro vr)
     | ((with_reducible first | refine ny ?_ | refine t_dwh (h := fun K KL => ?_)); intros; simp only [go_sem, geff, g0]))
    refine t_loop (ι := { i : Nat × Bool // i.1 ≤ l.length ∧ (l.drop i.1).any badD = Bb ∧ (i.2 || (l.drop i.1).any fun d => 0 == d) = Z }) (fun i => ⟨upd (upd (upd topF 5 (.lit (.int .i64 i.1.1))) 4 (.lit (.bool i.1.2))) 0 (.sl false 1 (ints .i64 l)), []⟩) (fun i => l.length - i.1.1) ⟨(0, false), by simp, hB, by simpa using hZ⟩ ?_ ?_
    · skip
      (refine Le.frame ?_; repeat' (first | exact leF_top _ | (with_reducible refine leF_sl ?_ ?_) | (refine leF_upd (LeR.of_eq ?_) ?_))) <;> (try (simp only [go_sem]; try rfl))
    · rintro ⟨⟨i, z⟩, hi, hF, hY⟩ K0
      simp only at hi hF hY
      rcases Nat.lt_or_ge i l.length with hc | hc
      · have g1 : decide ((i : Int) < (l.length : Int)) = true := decide_eq_true (by omega)
        have g2 := ints_getD .i64 l i hc
        rw [drop_getD 0 hc, List.any_cons] at hF
        rw [drop_getD 0 hc, List.any_cons, ← Bool.or_assoc] at hY
        generalize l.getD i 0 = d at g2 hF hY
        rw [show badD d = (decide (d < 0) || decide (d > 4096)) from rfl] at hF
        by_cases d1 : d < 0
        · have d1' : decide (d < 0) = true := decide_eq_true d1
          have : Bb = true := by rw [← hF, d1']; rfl
          subst this
          repeat' (first
           | (with_reducible first | refine nx ?_ | refine t_seq fun K => ?_ | refine t_br (fun hc => ?_) fun hc => ?_ | refine t_bx ?_ | apply And.intro | intro vr)
           | ((with_reducible first | refine ny ?_ | refine t_dwh (h := fun K KL => ?_)); intros; simp only [go_sem, geff, g1, g2, d1', Int.toNat_natCast]))
          all_goals try exact om
          refine end_ret rfl ?_
          simp only [fin, go_sem, szV]
          exact LeA.refl _
        · have d1' : decide (d < 0) = false := decide_eq_false d1
          by_cases d2 : d > 4096
          · have d2' : decide (d > 4096) = true := decide_eq_true d2
            have : Bb = true := by rw [← hF, d1', d2']; rfl
            subst this
            repeat' (first
             | (with_reducible first | refine nx ?_ | refine t_seq fun K => ?_ | refine t_br (fun hc => ?_) fun hc => ?_ | refine t_bx ?_ | apply And.intro | intro vr)
             | ((with_reducible first | refine ny ?_ | refine t_dwh (h := fun K KL => ?_)); intros; simp only [go_sem, geff, g1, g2, d1', d2', Int.toNat_natCast]))
            all_goals try exact om
            refine end_ret rfl ?_
            simp only [fin, go_sem, szV]
            exact LeA.refl _
          · have d2' : decide (d > 4096) = false := decide_eq_false d2
            rw [d1', d2', Bool.false_or, Bool.false_or] at hF
            cases z
            · by_cases e0 : (d == 0) = true
              · have e1 : (0 == d) = true := by rw [beq_iff_eq] at e0 ⊢; exact e0.symm
                rw [e1] at hY
                repeat' (first
                 | (with_reducible first | refine nx ?_ | refine t_seq fun K => ?_ | refine t_br (fun hc => ?_) fun hc => ?_ | refine t_bx ?_ | apply And.intro | intro vr)
                 | ((with_reducible first | refine ny ?_ | refine t_dwh (h := fun K KL => ?_)); intros; simp only [go_sem, geff, g1, g2, d1', d2', e0, Int.toNat_natCast]))
                all_goals try exact om
                refine ⟨⟨(i + 1, true), by simp only; omega, hF, hY⟩, by simp only; omega, ?_⟩
                (refine Le.frame ?_; repeat' (first | exact leF_top _ | (with_reducible refine leF_sl ?_ ?_) | (refine leF_upd (LeR.of_eq ?_) ?_))) <;> (try (simp only [go_sem]; try rfl))
              · have e0' : (d == 0) = false := by simpa using e0
                have e1 : (0 == d) = false := by rw [beq_eq_false_iff_ne] at e0' ⊢; exact fun h => e0' h.symm
                rw [e1] at hY
                repeat' (first
                 | (with_reducible first | refine nx ?_ | refine t_seq fun K => ?_ | refine t_br (fun hc => ?_) fun hc => ?_ | refine t_bx ?_ | apply And.intro | intro vr)
                 | ((with_reducible first | refine ny ?_ | refine t_dwh (h := fun K KL => ?_)); intros; simp only [go_sem, geff, g1, g2, d1', d2', e0', Int.toNat_natCast]))
                all_goals try exact om
                refine ⟨⟨(i + 1, false), by simp only; omega, hF, hY⟩, by simp only; omega, ?_⟩
                (refine Le.frame ?_; repeat' (first | exact leF_top _ | (with_reducible refine leF_sl ?_ ?_) | (refine leF_upd (LeR.of_eq ?_) ?_))) <;> (try (simp only [go_sem]; try rfl))
            · skip
              repeat' (first
               | (with_reducible first | refine nx ?_ | refine t_seq fun K => ?_ | refine t_br (fun hc => ?_) fun hc => ?_ | refine t_bx ?_ | apply And.intro | intro vr)
               | ((with_reducible first | refine ny ?_ | refine t_dwh (h := fun K KL => ?_)); intros; simp only [go_sem, geff, g1, g2, d1', d2', Int.toNat_natCast]))
              all_goals try exact om
              refine ⟨⟨(i + 1, true), by simp only; omega, hF, by rw [← hY]; simp⟩, by simp only; omega, ?_⟩
              (refine Le.frame ?_; repeat' (first | exact leF_top _ | (with_reducible refine leF_sl ?_ ?_) | (refine leF_upd (LeR.of_eq ?_) ?_))) <;> (try (simp only [go_sem]; try rfl))
      · have g1 : decide ((i : Int) < (l.length : Int)) = false := decide_eq_false (by omega)
        rw [List.drop_eq_nil_of_le hc, List.any_nil] at hF
        rw [List.drop_eq_nil_of_le hc, List.any_nil, Bool.or_false] at hY
        subst hF
        have hd := bad_no (by rw [hB]; simp)
        cases z
        · subst hY
          repeat' (first
           | (with_reducible first | refine nx ?_ | refine t_seq fun K => ?_ | refine t_br (fun hc => ?_) fun hc => ?_ | refine t_bx ?_ | apply And.intro | intro vr)
           | ((with_reducible first | refine ny ?_ | refine t_dwh (h := fun K KL => ?_)); intros; simp only [go_sem, geff, g1]))
          refine t_loop (ι := Ls l G) (fun i => ⟨upd (upd (upd topF 7 (.lit (.int .i64 i.i))) 6 (.lit (.int .i64 i.n))) 0 (.sl false 1 (ints .i64 l)), []⟩) (fun i => l.length - i.i) ⟨0, 1, by omega, by omega, hG⟩ ?_ ?_
          · skip
            (refine Le.frame ?_; repeat' (first | exact leF_top _ | (with_reducible refine leF_sl ?_ ?_) | (refine leF_upd (LeR.of_eq ?_) ?_))) <;> (try (simp only [go_sem]; try rfl))
          · rintro ⟨i, n, hi, hn, hF⟩ K1
            rcases Nat.lt_or_ge i l.length with hc | hc
            · have g1 : decide ((i : Int) < (l.length : Int)) = true := decide_eq_true (by omega)
              have g2 := ints_getD .i64 l i hc
              have hd' := hd (l.getD i 0) (by rw [List.getD_eq_getElem?_getD, List.getElem?_eq_getElem hc]; exact List.getElem_mem _)
              rw [drop_getD 0 hc, prodS] at hF
              generalize l.getD i 0 = d at g2 hF hd'
              have hb := mul_bd hn hd'
              by_cases hp : n * d > 4096
              · have hp' : decide (n * d > 4096) = true := decide_eq_true hp
                rw [if_pos hp] at hF
                subst hF
                repeat' (first
                 | (with_reducible first | refine nx ?_ | refine t_seq fun K => ?_ | refine t_br (fun hc => ?_) fun hc => ?_ | refine t_bx ?_ | apply And.intro | intro vr)
                 | ((with_reducible first | refine ny ?_ | refine t_dwh (h := fun K KL => ?_)); intros; simp only [go_sem, geff, g1, g2, hp', Int.toNat_natCast]))
                all_goals try exact om
                refine end_ret rfl ?_
                simp only [fin, go_sem, szV, Bool.false_eq_true]
                exact LeA.refl _
              · have hp' : decide (n * d > 4096) = false := decide_eq_false hp
                rw [if_neg hp] at hF
                repeat' (first
                 | (with_reducible first | refine nx ?_ | refine t_seq fun K => ?_ | refine t_br (fun hc => ?_) fun hc => ?_ | refine t_bx ?_ | apply And.intro | intro vr)
                 | ((with_reducible first | refine ny ?_ | refine t_dwh (h := fun K KL => ?_)); intros; simp only [go_sem, geff, g1, g2, hp', Int.toNat_natCast]))
                all_goals try exact om
                refine ⟨⟨i + 1, n * d, by omega, by omega, hF⟩, by simp only; omega, ?_⟩
                (refine Le.frame ?_; repeat' (first | exact leF_top _ | (with_reducible refine leF_sl ?_ ?_) | (refine leF_upd (LeR.of_eq ?_) ?_))) <;> (try (simp only [go_sem]; try rfl))
            · have g1 : decide ((i : Int) < (l.length : Int)) = false := decide_eq_false (by omega)
              rw [List.drop_eq_nil_of_le hc, prodS] at hF
              subst hF
              repeat' (first
               | (with_reducible first | refine nx ?_ | refine t_seq fun K => ?_ | refine t_br (fun hc => ?_) fun hc => ?_ | refine t_bx ?_ | apply And.intro | intro vr)
               | ((with_reducible first | refine ny ?_ | refine t_dwh (h := fun K KL => ?_)); intros; simp only [go_sem, geff, g1]))
              refine end_ret rfl ?_
              simp only [fin, go_sem, szV, Bool.false_eq_true]
              exact LeA.refl _
        · subst hY
          repeat' (first
           | (with_reducible first | refine nx ?_ | refine t_seq fun K => ?_ | refine t_br (fun hc => ?_) fun hc => ?_ | refine t_bx ?_ | apply And.intro | intro vr)
           | ((with_reducible first | refine ny ?_ | refine t_dwh (h := fun K KL => ?_)); intros; simp only [go_sem, geff, g1]))
          refine end_ret rfl ?_
          simp only [fin, go_sem, szV, Bool.false_eq_true]
          exact LeA.refl _
noncomputable def con34 : PCon Tryd.prog where
  f := 34
  c := fun
    | [xl] => match slK .i64 xl with | some l => some (l.length ≤ 1000000, szV (sizeS l)) | _ => none
    | _ => none
  ok := by
    intro args p r hc hp
    split at hc
    · split at hc
      · rename_i hl
        cases hc
        exact PC.weak (rsize_pc hp) ⟨slK_le hl, trivial⟩
      · cases hc
    · cases hc
  fk := fk34
theorem con34_f : con34.f = 34 := rfl
theorem con34_c {xl : AV} : con34.c [xl] = match slK .i64 xl with | some l => some (l.length ≤ 1000000, szV (sizeS l)) | _ => none := rfl
end Go.Proofs.YtdndgmcmmbjjkaaDoor

/- Arguments that are arrays, and lists of arrays. -/
namespace Go.Proofs.YtdndgmcmmbjjkaaDoor
open Go Go.Fw
set_option maxRecDepth 20000

theorem LeL.len : ∀ {xs ys : List AV}, LeL xs ys → xs.length = ys.length
  | [], [], _ => rfl
  | _ :: _, _ :: _, h => by simp [LeL.len h.2]
  | [], _ :: _, h => h.elim
  | _ :: _, [], h => h.elim
theorem LeA.agg {xs ys : List AV} (h : LeL xs ys) : LeA (.agg xs) (.agg ys) := fun C v hv => by
  cases hv with
  | agg _ vs hl h1 hh => exact .agg ys vs (h.rl ⟨hl, hh⟩).1 (fun i hi => h1 i (by rw [LeL.len h]; exact hi)) (h.rl ⟨hl, hh⟩).2
def arrOf : AV → Option Arr
  | .agg [.lit (.string e), x, y] => match slK .i64 x, slK .i64 y with
    | some d, some w => some ⟨e, d, w⟩
    | _, _ => none
  | _ => none
theorem arrOf_agg {e : ByteArray} {x y : AV} : arrOf (.agg [.lit (.string e), x, y]) = match slK .i64 x, slK .i64 y with
    | some d, some w => some ⟨e, d, w⟩
    | _, _ => none := rfl
theorem arrOf_inv {x : AV} {a : Arr} (h : arrOf x = some a) : ∃ p q, x = .agg [.lit (.string a.e), p, q] ∧ LeA p (.sl false 1 (ints .i64 a.d)) ∧ LeA q (.sl false 1 (ints .i64 a.x)) := by
  unfold arrOf at h
  split at h
  · split at h
    · rename_i h1 h2
      cases h
      exact ⟨_, _, rfl, slK_le h1, slK_le h2⟩
    · cases h
  · cases h
theorem arrOf_le {x : AV} {a : Arr} (h : arrOf x = some a) : LeA x (arrV a) := by
  obtain ⟨p, q, rfl, h1, h2⟩ := arrOf_inv h
  exact LeA.agg ⟨LeA.refl _, h1, h2, trivial⟩
def aeV (p : Arr × Int) : AV := .tup [arrV p.1, .lit (.int .i64 p.2)]
end Go.Proofs.YtdndgmcmmbjjkaaDoor

/- Validity of arrays. -/
namespace Go.Proofs.YtdndgmcmmbjjkaaDoor
open Go Go.Fw
set_option maxRecDepth 20000

noncomputable def E3 : Env := envOf (P := Tryd.prog) zer (fun _ => false) (fun _ => false) [con40] []
theorem E3_ok : EnvOk Tryd.prog E3 := envOk zer_ok
theorem notel_ec {σ : List AObj} {o : Nat} {e : ByteArray} {n : Int} (ho : σ[o]? = some (.box 9 [.lit (.string e)])) {k : AV → List AObj → Prop} (hk : k (.lit (.bool (!vld e n))) σ) : EC Tryd.prog 39 [.lit (.int .i64 n), .ref o 0] σ k := by
  refine ecO E3_ok (fun _ => [0, 1, 3]) Tryd.func39 (h := fun KF => ?_)
  unfold E3
  repeat' (first
   | (with_reducible first | refine nx ?_ | refine t_seq fun K => ?_ | refine t_br (fun hc => ?_) fun hc => ?_ | refine t_bx ?_ | apply And.intro | intro vr)
   | ((with_reducible first | refine ny ?_ | refine t_dwh (h := fun K KL => ?_)); intros; simp only [go_sem, geff, con40_f, con40_c, ho]))
  refine end_ret rfl ?_
  simp only [go_sem]
  exact hk
noncomputable def con39 : ECon Tryd.prog where
  f := 39
  c := fun args σ k => match args with
    | [.lit (.int .i64 n), .ref o 0] => match σ[o]? with
      | some (.box 9 [.lit (.string e)]) => k (.lit (.bool (!vld e n))) σ
      | _ => False
    | _ => False
  ok := by
    intro args σ k h
    split at h
    · split at h
      · rename_i ho
        exact notel_ec ho h
      · exact h.elim
    · exact h.elim
  fk := fk39
theorem con39_f : con39.f = 39 := rfl
theorem con39_c {σ : List AObj} {k : AV → List AObj → Prop} {o : Nat} {n : Int} : con39.c [.lit (.int .i64 n), .ref o 0] σ k = match σ[o]? with
      | some (.box 9 [.lit (.string e)]) => k (.lit (.bool (!vld e n))) σ
      | _ => False := rfl
noncomputable def E4 : Env := envOf (P := Tryd.prog) zer (fun _ => false) (fun _ => false) [] [con39]
theorem E4_ok : EnvOk Tryd.prog E4 := envOk zer_ok
theorem indexf_ec {σ : List AObj} {o : Nat} {e : ByteArray} {l : List Int} (hl : l.length ≤ 1000000) (ho : σ[o]? = some (.box 9 [.lit (.string e)])) {k : AV → List AObj → Prop} (hk : k (.lit (.int .i64 (idxG (fun n => !vld e n) l 0))) σ) :
    EC Tryd.prog 50 [.sl false 1 (ints .i64 l), .fn (.func 39) [] [.ref o 0]] σ k := by
  generalize hR : idxG (fun n => !vld e n) l 0 = R at hk
  refine ecO E4_ok (fun _ => [0, 1, 4, 5, 7, 8, 9, 16]) Tryd.func50 (h := fun KF => ?_)
  unfold E4
  repeat' (first
   | (with_reducible first | refine nx ?_ | refine t_seq fun K => ?_ | refine t_br (fun hc => ?_) fun hc => ?_ | refine t_bx ?_ | apply And.intro | intro vr)
   | ((with_reducible first | refine ny ?_ | refine t_dwh (h := fun K KL => ?_)); intros; simp only [go_sem, geff, con39_f]))
  refine t_loop (ι := { i : Nat // i ≤ l.length ∧ idxG (fun n => !vld e n) (l.drop i) i = R }) (fun i => ⟨upd (upd (upd (upd topF 8 (.lit (.int .i64 i.1))) 7 (.lit (.int .i64 l.length))) 1 (.fn (.func 39) [] [.ref o 0])) 0 (.sl false 1 (ints .i64 l)), σ⟩) (fun i => l.length - i.1) ⟨0, by omega, hR⟩ ?_ ?_
  · skip
    (refine Le.frame ?_; repeat' (first | exact leF_top _ | (with_reducible refine leF_sl ?_ ?_) | (refine leF_upd (LeR.of_eq ?_) ?_))) <;> (try (simp only [go_sem]; try rfl))
  · rintro ⟨i, hi, hF⟩ K0
    rcases Nat.lt_or_ge i l.length with hc | hc
    · have g1 : decide ((i : Int) < (l.length : Int)) = true := decide_eq_true (by omega)
      have g2 := ints_getD .i64 l i hc
      rw [drop_getD 0 hc, idxG] at hF
      generalize l.getD i 0 = d at g2 hF
      by_cases he : vld e d = true
      · rw [if_neg (by simp [he])] at hF
        repeat' (first
         | (with_reducible first | refine nx ?_ | refine t_seq fun K => ?_ | refine t_br (fun hc => ?_) fun hc => ?_ | refine t_bx ?_ | apply And.intro | intro vr)
         | ((with_reducible first | refine ny ?_ | refine t_dwh (h := fun K KL => ?_)); intros; simp only [go_sem, geff, con39_f, con39_c, ho, g1, g2, he, Int.toNat_natCast, Bool.not_true]))
        all_goals try exact om
        refine ⟨⟨i + 1, by omega, by rw [← hF]; congr 1⟩, by simp only; omega, ?_⟩
        (refine Le.frame ?_; repeat' (first | exact leF_top _ | (with_reducible refine leF_sl ?_ ?_) | (refine leF_upd (LeR.of_eq ?_) ?_))) <;> (try (simp only [go_sem]; try rfl))
      · have he' : vld e d = false := by simpa using he
        rw [if_pos (by simp [he'])] at hF
        subst hF
        repeat' (first
         | (with_reducible first | refine nx ?_ | refine t_seq fun K => ?_ | refine t_br (fun hc => ?_) fun hc => ?_ | refine t_bx ?_ | apply And.intro | intro vr)
         | ((with_reducible first | refine ny ?_ | refine t_dwh (h := fun K KL => ?_)); intros; simp only [go_sem, geff, con39_f, con39_c, ho, g1, g2, he', Int.toNat_natCast, Bool.not_false]))
        all_goals try exact om
        refine end_ret rfl ?_
        simp only [go_sem]
        exact hk
    · have g1 : decide ((i : Int) < (l.length : Int)) = false := decide_eq_false (by omega)
      rw [List.drop_eq_nil_of_le hc, idxG] at hF
      subst hF
      repeat' (first
       | (with_reducible first | refine nx ?_ | refine t_seq fun K => ?_ | refine t_br (fun hc => ?_) fun hc => ?_ | refine t_bx ?_ | apply And.intro | intro vr)
       | ((with_reducible first | refine ny ?_ | refine t_dwh (h := fun K KL => ?_)); intros; simp only [go_sem, geff, con39_f, g1]))
      refine end_ret rfl ?_
      simp only [go_sem]
      exact hk
noncomputable def con50 : ECon Tryd.prog where
  f := 50
  c := fun args σ k => match args with
    | [x, .fn (.func 39) [] [.ref o 0]] => match slK .i64 x, σ[o]? with
      | some l, some (.box 9 [.lit (.string e)]) => l.length ≤ 1000000 ∧ k (.lit (.int .i64 (idxG (fun n => !vld e n) l 0))) σ
      | _, _ => False
    | _ => False
  ok := by
    intro args σ k h
    split at h
    · split at h
      · rename_i hx ho
        exact EC.weak (indexf_ec h.1 ho h.2) (LeRL.cons (slK_leR hx) (LeRL.cons (LeR.refl _) LeRL.nil))
      · exact h.elim
    · exact h.elim
  fk := fk50
theorem con50_f : con50.f = 50 := rfl
theorem con50_c {σ : List AObj} {k : AV → List AObj → Prop} {x : AV} {o : Nat} : con50.c [x, .fn (.func 39) [] [.ref o 0]] σ k = match slK .i64 x, σ[o]? with
      | some l, some (.box 9 [.lit (.string e)]) => l.length ≤ 1000000 ∧ k (.lit (.int .i64 (idxG (fun n => !vld e n) l 0))) σ
      | _, _ => False := rfl
noncomputable def E5 : Env := envOf (P := Tryd.prog) zer (fun _ => false) (fun _ => false) [] [con50]
theorem E5_ok : EnvOk Tryd.prog E5 := envOk zer_ok
theorem containsf_ec {σ : List AObj} {o : Nat} {e : ByteArray} {l : List Int} (hl : l.length ≤ 1000000) (ho : σ[o]? = some (.box 9 [.lit (.string e)])) {k : AV → List AObj → Prop} (hk : k (.lit (.bool (l.any fun n => !vld e n))) σ) :
    EC Tryd.prog 38 [.sl false 1 (ints .i64 l), .fn (.func 39) [] [.ref o 0]] σ k := by
  rw [← idxG_any _ l 0 (by omega)] at hk
  refine ecO E5_ok (fun _ => [0, 1, 4]) Tryd.func38 (h := fun KF => ?_)
  unfold E5
  repeat' (first
   | (with_reducible first | refine nx ?_ | refine t_seq fun K => ?_ | refine t_br (fun hc => ?_) fun hc => ?_ | refine t_bx ?_ | apply And.intro | intro vr)
   | ((with_reducible first | refine ny ?_ | refine t_dwh (h := fun K KL => ?_)); intros; simp only [go_sem, geff, con50_f, con50_c, slK_sl, ho]))
  all_goals try exact om
  refine end_ret rfl ?_
  simp only [go_sem]
  exact hk
noncomputable def con38 : ECon Tryd.prog where
  f := 38
  c := fun args σ k => match args with
    | [x, .fn (.func 39) [] [.ref o 0]] => match slK .i64 x, σ[o]? with
      | some l, some (.box 9 [.lit (.string e)]) => l.length ≤ 1000000 ∧ k (.lit (.bool (l.any fun n => !vld e n))) σ
      | _, _ => False
    | _ => False
  ok := by
    intro args σ k h
    split at h
    · split at h
      · rename_i hx ho
        exact EC.weak (containsf_ec h.1 ho h.2) (LeRL.cons (slK_leR hx) (LeRL.cons (LeR.refl _) LeRL.nil))
      · exact h.elim
    · exact h.elim
  fk := fk38
theorem con38_f : con38.f = 38 := rfl
theorem con38_c {σ : List AObj} {k : AV → List AObj → Prop} {x : AV} {o : Nat} : con38.c [x, .fn (.func 39) [] [.ref o 0]] σ k = match slK .i64 x, σ[o]? with
      | some l, some (.box 9 [.lit (.string e)]) => l.length ≤ 1000000 ∧ k (.lit (.bool (l.any fun n => !vld e n))) σ
      | _, _ => False := rfl
noncomputable def E6 : Env := envOf (P := Tryd.prog) zer (fun _ => false) (fun _ => false) [] [con38]
theorem E6_ok : EnvOk Tryd.prog E6 := envOk zer_ok
theorem elements_pc {e : ByteArray} {l : List Int} (hl : l.length ≤ 1000000) : PC Tryd.prog 26 [.lit (.string e), .sl false 1 (ints .i64 l)] (.lit (.bool (!(l.any fun n => !vld e n)))) := by
  refine pcO E6_ok (fun _ => [1, 2, 4]) Tryd.func26 (h := fun KF => ?_)
  unfold E6
  repeat' (first
   | (with_reducible first | refine nx ?_ | refine t_seq fun K => ?_ | refine t_br (fun hc => ?_) fun hc => ?_ | refine t_bx ?_ | apply And.intro | intro vr)
   | ((with_reducible first | refine ny ?_ | refine t_dwh (h := fun K KL => ?_)); intros; simp only [go_sem, geff, con38_f, con38_c, slK_sl]))
  all_goals try exact om
  refine end_ret rfl ?_
  simp only [fin, go_sem]
  exact LeA.refl _
noncomputable def con26 : PCon Tryd.prog where
  f := 26
  c := fun
    | [.lit (.string e), xl] => match slK .i64 xl with | some l => some (l.length ≤ 1000000, .lit (.bool (!(l.any fun n => !vld e n)))) | _ => none
    | _ => none
  ok := by
    intro args p r hc hp
    split at hc
    · split at hc
      · rename_i hl
        cases hc
        exact PC.weak (elements_pc hp) ⟨LeA.refl _, slK_le hl, trivial⟩
      · cases hc
    · cases hc
  fk := fk26
theorem con26_f : con26.f = 26 := rfl
theorem con26_c {e : ByteArray} {xl : AV} : con26.c [.lit (.string e), xl] = match slK .i64 xl with | some l => some (l.length ≤ 1000000, .lit (.bool (!(l.any fun n => !vld e n)))) | _ => none := rfl
theorem szV_def {p : Int × Int} : szV p = .tup [.lit (.int .i64 p.1), .lit (.int .i64 p.2)] := rfl
theorem arrV_def {a : Arr} : arrV a = .agg [.lit (.string a.e), .sl false 1 (ints .i64 a.d), .sl false 1 (ints .i64 a.x)] := rfl
theorem nilA_le : LeA (.agg [.lit (.string ByteArray.empty), .sl true 1 [], .sl true 1 []]) (arrV nilA) := LeA.agg ⟨LeA.of_eq rfl, LeA.full _ _ _, LeA.full _ _ _, trivial⟩
theorem nilAe_le {e : Int} : LeA (.tup [.agg [.lit (.string ByteArray.empty), .sl true 1 [], .sl true 1 []], .lit (.int .i64 e)]) (aeV (nilA, e)) := LeA.tup ⟨nilA_le, LeA.refl _, trivial⟩
def tyOk (e : ByteArray) : Bool := eqS e ⟨#[105, 110, 116]⟩ || eqS e ⟨#[98, 111, 111, 108]⟩
def bad (a : Arr) : Bool := a.x.any fun n => !vld a.e n
theorem ofE_ty {a : Arr} (h : tyOk a.e = false) : ofE a = 12 := if_pos h
theorem ofE_sz {a : Arr} (h : tyOk a.e = true) (h2 : (sizeS a.d).2 ≠ 0) : ofE a = (sizeS a.d).2 := by
  unfold ofE; rw [if_neg (show ¬ (eqS a.e sInt || eqS a.e sBool) = false from fun e => by have e : tyOk a.e = false := e; rw [h] at e; cases e), if_pos h2]
theorem ofE_len {a : Arr} (h : tyOk a.e = true) (h2 : (sizeS a.d).2 = 0) (h3 : (a.x.length : Int) ≠ (sizeS a.d).1) : ofE a = 1 := by
  unfold ofE; rw [if_neg (show ¬ (eqS a.e sInt || eqS a.e sBool) = false from fun e => by have e : tyOk a.e = false := e; rw [h] at e; cases e), if_neg (by simpa using h2), if_pos h3]
theorem ofE_el {a : Arr} (h : tyOk a.e = true) (h2 : (sizeS a.d).2 = 0) (h3 : (a.x.length : Int) = (sizeS a.d).1) : ofE a = if bad a = true then 2 else 0 := by
  unfold ofE; rw [if_neg (show ¬ (eqS a.e sInt || eqS a.e sBool) = false from fun e => by have e : tyOk a.e = false := e; rw [h] at e; cases e), if_neg (by simpa using h2), if_neg (by simpa using h3)]; rfl
theorem ofS_err {a : Arr} {e : Int} (h : ofE a = e) (h0 : e ≠ 0) : ofS a = (nilA, e) := by unfold ofS; rw [h, if_neg h0]
theorem ofS_ok {a : Arr} (h : ofE a = 0) : ofS a = (a, 0) := by unfold ofS; rw [if_pos h]
noncomputable def E7 : Env := envOf (P := Tryd.prog) zer (fun _ => false) (fun _ => false) [con27, con25, con26] []
theorem E7_ok : EnvOk Tryd.prog E7 := envOk zer_ok
set_option maxRecDepth 20000 in
set_option maxHeartbeats 2000000 in
theorem of_pc {e : ByteArray} {d x : List Int} (hd : d.length ≤ 1000000) (hx : x.length ≤ 1000000) : PC Tryd.prog 11 [.lit (.string e), .sl false 1 (ints .i64 d), .sl false 1 (ints .i64 x)] (aeV (ofS ⟨e, d, x⟩)) := by
  have hz := sizeS_bd d
  by_cases t : tyOk e = true
  · generalize hS : sizeS d = s at hz
    obtain ⟨n, er⟩ := s
    simp only at hz
    have hS1 : (sizeS d).1 = n := by rw [hS]
    have hS2 : (sizeS d).2 = er := by rw [hS]
    by_cases t1 : eqS e ⟨#[105, 110, 116]⟩ = true
    · skip
      by_cases e0 : er = 0
      · subst e0
        by_cases hn : (x.length : Int) = n
        · have n1 : ((x.length : Int) != n) = false := by rw [bne_eq_false_iff_eq]; exact hn
          by_cases hb : bad ⟨e, d, x⟩ = true
          · rw [ofS_err (e := 2) (by rw [ofE_el t hS2 (by rw [hS1]; exact hn), if_pos hb]) (by decide)]
            have hb' : (x.any fun n => !vld e n) = true := hb
            refine pcO E7_ok (fun _ => [0, 1, 2, 6, 7, 8, 9, 15, 22, 27, 33]) Tryd.func11 (h := fun KF => ?_)
            unfold E7
            repeat' (first
             | (with_reducible first | refine nx ?_ | refine t_seq fun K => ?_ | refine t_br (fun hc => ?_) fun hc => ?_ | refine t_bx ?_ | apply And.intro | intro vr)
             | ((with_reducible first | refine ny ?_ | refine t_dwh (h := fun K KL => ?_)); intros; simp only [go_sem, geff, con27_f, con25_f, con26_f, con27_c, con25_c, con26_c, slK_sl, t1, hS, szV_def, n1, hb', Bool.not_true]))
            all_goals try exact om
            refine end_ret rfl ?_
            simp only [fin, go_sem]
            exact nilAe_le
          · rw [ofS_ok (by rw [ofE_el t hS2 (by rw [hS1]; exact hn), if_neg hb])]
            have hb' : (x.any fun n => !vld e n) = false := Bool.eq_false_iff.2 hb
            refine pcO E7_ok (fun _ => [0, 1, 2, 6, 7, 8, 9, 15, 22, 27, 33]) Tryd.func11 (h := fun KF => ?_)
            unfold E7
            repeat' (first
             | (with_reducible first | refine nx ?_ | refine t_seq fun K => ?_ | refine t_br (fun hc => ?_) fun hc => ?_ | refine t_bx ?_ | apply And.intro | intro vr)
             | ((with_reducible first | refine ny ?_ | refine t_dwh (h := fun K KL => ?_)); intros; simp only [go_sem, geff, con27_f, con25_f, con26_f, con27_c, con25_c, con26_c, slK_sl, t1, hS, szV_def, n1, hb', Bool.not_false]))
            all_goals try exact om
            refine end_ret rfl ?_
            simp only [fin, go_sem]
            exact LeA.refl _
        · have n1 : ((x.length : Int) != n) = true := by rw [bne_iff_ne]; exact hn
          rw [ofS_err (e := 1) (ofE_len t hS2 (by rw [hS1]; exact hn)) (by decide)]
          refine pcO E7_ok (fun _ => [0, 1, 2, 6, 7, 8, 9, 15, 22, 27, 33]) Tryd.func11 (h := fun KF => ?_)
          unfold E7
          repeat' (first
           | (with_reducible first | refine nx ?_ | refine t_seq fun K => ?_ | refine t_br (fun hc => ?_) fun hc => ?_ | refine t_bx ?_ | apply And.intro | intro vr)
           | ((with_reducible first | refine ny ?_ | refine t_dwh (h := fun K KL => ?_)); intros; simp only [go_sem, geff, con27_f, con25_f, con26_f, con27_c, con25_c, con26_c, slK_sl, t1, hS, szV_def, n1]))
          all_goals try exact om
          refine end_ret rfl ?_
          simp only [fin, go_sem]
          exact nilAe_le
      · have e1 : (er != 0) = true := by rw [bne_iff_ne]; exact e0
        rw [ofS_err (by rw [ofE_sz t (by rw [hS2]; exact e0)]) (by rw [hS2]; exact e0)]
        refine pcO E7_ok (fun _ => [0, 1, 2, 6, 7, 8, 9, 15, 22, 27, 33]) Tryd.func11 (h := fun KF => ?_)
        unfold E7
        repeat' (first
         | (with_reducible first | refine nx ?_ | refine t_seq fun K => ?_ | refine t_br (fun hc => ?_) fun hc => ?_ | refine t_bx ?_ | apply And.intro | intro vr)
         | ((with_reducible first | refine ny ?_ | refine t_dwh (h := fun K KL => ?_)); intros; simp only [go_sem, geff, con27_f, con25_f, con26_f, con27_c, con25_c, con26_c, slK_sl, t1, hS, szV_def, e1]))
        all_goals try exact om
        refine end_ret rfl ?_
        simp only [fin, go_sem, hS]
        exact nilAe_le
    · have t2 : eqS e ⟨#[98, 111, 111, 108]⟩ = true := by unfold tyOk at t; rw [Bool.or_eq_true] at t; exact t.resolve_left t1
      have t1' : eqS e ⟨#[105, 110, 116]⟩ = false := by simpa using t1
      by_cases e0 : er = 0
      · subst e0
        by_cases hn : (x.length : Int) = n
        · have n1 : ((x.length : Int) != n) = false := by rw [bne_eq_false_iff_eq]; exact hn
          by_cases hb : bad ⟨e, d, x⟩ = true
          · rw [ofS_err (e := 2) (by rw [ofE_el t hS2 (by rw [hS1]; exact hn), if_pos hb]) (by decide)]
            have hb' : (x.any fun n => !vld e n) = true := hb
            refine pcO E7_ok (fun _ => [0, 1, 2, 6, 7, 8, 9, 15, 22, 27, 33]) Tryd.func11 (h := fun KF => ?_)
            unfold E7
            repeat' (first
             | (with_reducible first | refine nx ?_ | refine t_seq fun K => ?_ | refine t_br (fun hc => ?_) fun hc => ?_ | refine t_bx ?_ | apply And.intro | intro vr)
             | ((with_reducible first | refine ny ?_ | refine t_dwh (h := fun K KL => ?_)); intros; simp only [go_sem, geff, con27_f, con25_f, con26_f, con27_c, con25_c, con26_c, slK_sl, t1', t2, hS, szV_def, n1, hb', Bool.not_true]))
            all_goals try exact om
            refine end_ret rfl ?_
            simp only [fin, go_sem]
            exact nilAe_le
          · rw [ofS_ok (by rw [ofE_el t hS2 (by rw [hS1]; exact hn), if_neg hb])]
            have hb' : (x.any fun n => !vld e n) = false := Bool.eq_false_iff.2 hb
            refine pcO E7_ok (fun _ => [0, 1, 2, 6, 7, 8, 9, 15, 22, 27, 33]) Tryd.func11 (h := fun KF => ?_)
            unfold E7
            repeat' (first
             | (with_reducible first | refine nx ?_ | refine t_seq fun K => ?_ | refine t_br (fun hc => ?_) fun hc => ?_ | refine t_bx ?_ | apply And.intro | intro vr)
             | ((with_reducible first | refine ny ?_ | refine t_dwh (h := fun K KL => ?_)); intros; simp only [go_sem, geff, con27_f, con25_f, con26_f, con27_c, con25_c, con26_c, slK_sl, t1', t2, hS, szV_def, n1, hb', Bool.not_false]))
            all_goals try exact om
            refine end_ret rfl ?_
            simp only [fin, go_sem]
            exact LeA.refl _
        · have n1 : ((x.length : Int) != n) = true := by rw [bne_iff_ne]; exact hn
          rw [ofS_err (e := 1) (ofE_len t hS2 (by rw [hS1]; exact hn)) (by decide)]
          refine pcO E7_ok (fun _ => [0, 1, 2, 6, 7, 8, 9, 15, 22, 27, 33]) Tryd.func11 (h := fun KF => ?_)
          unfold E7
          repeat' (first
           | (with_reducible first | refine nx ?_ | refine t_seq fun K => ?_ | refine t_br (fun hc => ?_) fun hc => ?_ | refine t_bx ?_ | apply And.intro | intro vr)
           | ((with_reducible first | refine ny ?_ | refine t_dwh (h := fun K KL => ?_)); intros; simp only [go_sem, geff, con27_f, con25_f, con26_f, con27_c, con25_c, con26_c, slK_sl, t1', t2, hS, szV_def, n1]))
          all_goals try exact om
          refine end_ret rfl ?_
          simp only [fin, go_sem]
          exact nilAe_le
      · have e1 : (er != 0) = true := by rw [bne_iff_ne]; exact e0
        rw [ofS_err (by rw [ofE_sz t (by rw [hS2]; exact e0)]) (by rw [hS2]; exact e0)]
        refine pcO E7_ok (fun _ => [0, 1, 2, 6, 7, 8, 9, 15, 22, 27, 33]) Tryd.func11 (h := fun KF => ?_)
        unfold E7
        repeat' (first
         | (with_reducible first | refine nx ?_ | refine t_seq fun K => ?_ | refine t_br (fun hc => ?_) fun hc => ?_ | refine t_bx ?_ | apply And.intro | intro vr)
         | ((with_reducible first | refine ny ?_ | refine t_dwh (h := fun K KL => ?_)); intros; simp only [go_sem, geff, con27_f, con25_f, con26_f, con27_c, con25_c, con26_c, slK_sl, t1', t2, hS, szV_def, e1]))
        all_goals try exact om
        refine end_ret rfl ?_
        simp only [fin, go_sem, hS]
        exact nilAe_le
  · have t' : tyOk e = false := by simpa using t
    have t1 : eqS e ⟨#[105, 110, 116]⟩ = false := (Bool.or_eq_false_iff.1 t').1
    have t2 : eqS e ⟨#[98, 111, 111, 108]⟩ = false := (Bool.or_eq_false_iff.1 t').2
    rw [ofS_err (ofE_ty t') (by decide)]
    refine pcO E7_ok (fun _ => [0, 1, 2, 6, 7, 8, 9, 15, 22, 27, 33]) Tryd.func11 (h := fun KF => ?_)
    unfold E7
    repeat' (first
     | (with_reducible first | refine nx ?_ | refine t_seq fun K => ?_ | refine t_br (fun hc => ?_) fun hc => ?_ | refine t_bx ?_ | apply And.intro | intro vr)
     | ((with_reducible first | refine ny ?_ | refine t_dwh (h := fun K KL => ?_)); intros; simp only [go_sem, geff, con27_f, con25_f, con26_f, con27_c, con25_c, con26_c, t1, t2]))
    all_goals try exact om
    refine end_ret rfl ?_
    simp only [fin, go_sem]
    exact nilAe_le
noncomputable def con11 : PCon Tryd.prog where
  f := 11
  c := fun
    | [.lit (.string e), xd, xx] => match slK .i64 xd, slK .i64 xx with | some d, some x => some (d.length ≤ 1000000 ∧ x.length ≤ 1000000, aeV (ofS ⟨e, d, x⟩)) | _, _ => none
    | _ => none
  ok := by
    intro args p r hc hp
    split at hc
    · split at hc
      · rename_i hd hx
        cases hc
        exact PC.weak ((fun hp : _ ∧ _ => of_pc hp.1 hp.2) hp) ⟨LeA.refl _, slK_le hd, slK_le hx, trivial⟩
      · cases hc
    · cases hc
  fk := fk11
theorem con11_f : con11.f = 11 := rfl
theorem con11_c {e : ByteArray} {xd : AV} {xx : AV} : con11.c [.lit (.string e), xd, xx] = match slK .i64 xd, slK .i64 xx with | some d, some x => some (d.length ≤ 1000000 ∧ x.length ≤ 1000000, aeV (ofS ⟨e, d, x⟩)) | _, _ => none := rfl
noncomputable def E8 : Env := envOf (P := Tryd.prog) zer (fun _ => false) (fun _ => false) [con36, con34, con35] []
theorem E8_ok : EnvOk Tryd.prog E8 := envOk zer_ok
set_option maxRecDepth 20000 in
set_option maxHeartbeats 2000000 in
theorem rof_pc {e : ByteArray} {d x : List Int} (hd : d.length ≤ 1000000) (hx : x.length ≤ 1000000) : PC Tryd.prog 24 [.lit (.string e), .sl false 1 (ints .i64 d), .sl false 1 (ints .i64 x)] (aeV (ofS ⟨e, d, x⟩)) := by
  have hz := sizeS_bd d
  by_cases t : tyOk e = true
  · generalize hS : sizeS d = s at hz
    obtain ⟨n, er⟩ := s
    simp only at hz
    have hS1 : (sizeS d).1 = n := by rw [hS]
    have hS2 : (sizeS d).2 = er := by rw [hS]
    by_cases t1 : eqS e ⟨#[105, 110, 116]⟩ = true
    · skip
      by_cases e0 : er = 0
      · subst e0
        by_cases hn : (x.length : Int) = n
        · have n1 : ((x.length : Int) != n) = false := by rw [bne_eq_false_iff_eq]; exact hn
          have hO := ofE_el (a := ⟨e, d, x⟩) t hS2 (by rw [hS1]; exact hn)
          unfold bad at hO
          simp only at hO
          generalize hB : (x.any fun n => !vld e n) = Bb at hO
          generalize hG : aeV (ofS ⟨e, d, x⟩) = G
          refine pcO E8_ok (fun _ => [0, 1, 2, 6, 7, 8, 9, 10, 16, 24, 30, 35, 44]) Tryd.func24 (h := fun KF => ?_)
          unfold E8
          repeat' (first
           | (with_reducible first | refine nx ?_ | refine t_seq fun K => ?_ | refine t_br (fun hc => ?_) fun hc => ?_ | refine t_bx ?_ | apply And.intro | intro vr)
           | ((with_reducible first | refine ny ?_ | refine t_dwh (h := fun K KL => ?_)); intros; simp only [go_sem, geff, con36_f, con34_f, con35_f, con36_c, con34_c, con35_c, slK_sl, t1, hS, szV_def, n1]))
          all_goals try exact om
          refine t_loop (ι := { i : Nat // i ≤ x.length ∧ ((x.drop i).any fun n => !vld e n) = Bb }) (fun i => ⟨upd (upd (upd (upd (upd topF 10 (.lit (.int .i64 i.1))) 6 (.ref 0 0)) 2 (.sl false 1 (ints .i64 x))) 1 (.sl false 1 (ints .i64 d))) 0 (.lit (.string e)), [AObj.box 24 [AV.lit (Value.string ByteArray.empty), AV.sl true 1 [], AV.sl true 1 []]]⟩) (fun i => x.length - i.1) ⟨0, by omega, hB⟩ ?_ ?_
          · skip
            (refine Le.frame ?_; repeat' (first | exact leF_top _ | (with_reducible refine leF_sl ?_ ?_) | (refine leF_upd (LeR.of_eq ?_) ?_))) <;> (try (simp only [go_sem]; try rfl))
          · rintro ⟨i, hi, hF⟩ K0
            rcases Nat.lt_or_ge i x.length with hc | hc
            · have g1 : decide ((i : Int) < (x.length : Int)) = true := decide_eq_true (by omega)
              have g2 := ints_getD .i64 x i hc
              rw [drop_getD 0 hc, List.any_cons] at hF
              generalize x.getD i 0 = v at g2 hF
              by_cases hv : vld e v = true
              · rw [hv, Bool.not_true, Bool.false_or] at hF
                repeat' (first
                 | (with_reducible first | refine nx ?_ | refine t_seq fun K => ?_ | refine t_br (fun hc => ?_) fun hc => ?_ | refine t_bx ?_ | apply And.intro | intro vr)
                 | ((with_reducible first | refine ny ?_ | refine t_dwh (h := fun K KL => ?_)); intros; simp only [go_sem, geff, con36_f, con34_f, con35_f, con36_c, con34_c, con35_c, g1, g2, hv, Int.toNat_natCast, Bool.not_true]))
                all_goals try exact om
                refine ⟨⟨i + 1, by omega, hF⟩, by simp only; omega, ?_⟩
                (refine Le.frame ?_; repeat' (first | exact leF_top _ | (with_reducible refine leF_sl ?_ ?_) | (refine leF_upd (LeR.of_eq ?_) ?_))) <;> (try (simp only [go_sem]; try rfl))
              · have hv' : vld e v = false := by simpa using hv
                rw [hv', Bool.not_false, Bool.true_or] at hF
                subst hF
                rw [if_pos rfl] at hO
                rw [ofS_err hO (by decide)] at hG
                subst hG
                repeat' (first
                 | (with_reducible first | refine nx ?_ | refine t_seq fun K => ?_ | refine t_br (fun hc => ?_) fun hc => ?_ | refine t_bx ?_ | apply And.intro | intro vr)
                 | ((with_reducible first | refine ny ?_ | refine t_dwh (h := fun K KL => ?_)); intros; simp only [go_sem, geff, con36_f, con34_f, con35_f, con36_c, con34_c, con35_c, g1, g2, hv', Int.toNat_natCast, Bool.not_false]))
                all_goals try exact om
                refine end_ret rfl ?_
                simp only [fin, go_sem]
                exact nilAe_le
            · have g1 : decide ((i : Int) < (x.length : Int)) = false := decide_eq_false (by omega)
              rw [List.drop_eq_nil_of_le hc, List.any_nil] at hF
              subst hF
              rw [if_neg (by decide)] at hO
              rw [ofS_ok hO] at hG
              subst hG
              repeat' (first
               | (with_reducible first | refine nx ?_ | refine t_seq fun K => ?_ | refine t_br (fun hc => ?_) fun hc => ?_ | refine t_bx ?_ | apply And.intro | intro vr)
               | ((with_reducible first | refine ny ?_ | refine t_dwh (h := fun K KL => ?_)); intros; simp only [go_sem, geff, con36_f, con34_f, con35_f, con36_c, con34_c, con35_c, g1, slK_sl]))
              all_goals try exact om
              refine end_ret rfl ?_
              simp only [fin, go_sem]
              exact LeA.refl _
        · have n1 : ((x.length : Int) != n) = true := by rw [bne_iff_ne]; exact hn
          rw [ofS_err (e := 1) (ofE_len t hS2 (by rw [hS1]; exact hn)) (by decide)]
          refine pcO E8_ok (fun _ => [0, 1, 2, 6, 7, 8, 9, 10, 16, 24, 30, 35, 44]) Tryd.func24 (h := fun KF => ?_)
          unfold E8
          repeat' (first
           | (with_reducible first | refine nx ?_ | refine t_seq fun K => ?_ | refine t_br (fun hc => ?_) fun hc => ?_ | refine t_bx ?_ | apply And.intro | intro vr)
           | ((with_reducible first | refine ny ?_ | refine t_dwh (h := fun K KL => ?_)); intros; simp only [go_sem, geff, con36_f, con34_f, con35_f, con36_c, con34_c, con35_c, slK_sl, t1, hS, szV_def, n1]))
          all_goals try exact om
          refine end_ret rfl ?_
          simp only [fin, go_sem]
          exact nilAe_le
      · have e1 : (er != 0) = true := by rw [bne_iff_ne]; exact e0
        rw [ofS_err (by rw [ofE_sz t (by rw [hS2]; exact e0)]) (by rw [hS2]; exact e0)]
        refine pcO E8_ok (fun _ => [0, 1, 2, 6, 7, 8, 9, 10, 16, 24, 30, 35, 44]) Tryd.func24 (h := fun KF => ?_)
        unfold E8
        repeat' (first
         | (with_reducible first | refine nx ?_ | refine t_seq fun K => ?_ | refine t_br (fun hc => ?_) fun hc => ?_ | refine t_bx ?_ | apply And.intro | intro vr)
         | ((with_reducible first | refine ny ?_ | refine t_dwh (h := fun K KL => ?_)); intros; simp only [go_sem, geff, con36_f, con34_f, con35_f, con36_c, con34_c, con35_c, slK_sl, t1, hS, szV_def, e1]))
        all_goals try exact om
        refine end_ret rfl ?_
        simp only [fin, go_sem, hS]
        exact nilAe_le
    · have t2 : eqS e ⟨#[98, 111, 111, 108]⟩ = true := by unfold tyOk at t; rw [Bool.or_eq_true] at t; exact t.resolve_left t1
      have t1' : eqS e ⟨#[105, 110, 116]⟩ = false := by simpa using t1
      by_cases e0 : er = 0
      · subst e0
        by_cases hn : (x.length : Int) = n
        · have n1 : ((x.length : Int) != n) = false := by rw [bne_eq_false_iff_eq]; exact hn
          have hO := ofE_el (a := ⟨e, d, x⟩) t hS2 (by rw [hS1]; exact hn)
          unfold bad at hO
          simp only at hO
          generalize hB : (x.any fun n => !vld e n) = Bb at hO
          generalize hG : aeV (ofS ⟨e, d, x⟩) = G
          refine pcO E8_ok (fun _ => [0, 1, 2, 6, 7, 8, 9, 10, 16, 24, 30, 35, 44]) Tryd.func24 (h := fun KF => ?_)
          unfold E8
          repeat' (first
           | (with_reducible first | refine nx ?_ | refine t_seq fun K => ?_ | refine t_br (fun hc => ?_) fun hc => ?_ | refine t_bx ?_ | apply And.intro | intro vr)
           | ((with_reducible first | refine ny ?_ | refine t_dwh (h := fun K KL => ?_)); intros; simp only [go_sem, geff, con36_f, con34_f, con35_f, con36_c, con34_c, con35_c, slK_sl, t1', t2, hS, szV_def, n1]))
          all_goals try exact om
          refine t_loop (ι := { i : Nat // i ≤ x.length ∧ ((x.drop i).any fun n => !vld e n) = Bb }) (fun i => ⟨upd (upd (upd (upd (upd topF 10 (.lit (.int .i64 i.1))) 6 (.ref 0 0)) 2 (.sl false 1 (ints .i64 x))) 1 (.sl false 1 (ints .i64 d))) 0 (.lit (.string e)), [AObj.box 24 [AV.lit (Value.string ByteArray.empty), AV.sl true 1 [], AV.sl true 1 []]]⟩) (fun i => x.length - i.1) ⟨0, by omega, hB⟩ ?_ ?_
          · skip
            (refine Le.frame ?_; repeat' (first | exact leF_top _ | (with_reducible refine leF_sl ?_ ?_) | (refine leF_upd (LeR.of_eq ?_) ?_))) <;> (try (simp only [go_sem]; try rfl))
          · rintro ⟨i, hi, hF⟩ K0
            rcases Nat.lt_or_ge i x.length with hc | hc
            · have g1 : decide ((i : Int) < (x.length : Int)) = true := decide_eq_true (by omega)
              have g2 := ints_getD .i64 x i hc
              rw [drop_getD 0 hc, List.any_cons] at hF
              generalize x.getD i 0 = v at g2 hF
              by_cases hv : vld e v = true
              · rw [hv, Bool.not_true, Bool.false_or] at hF
                repeat' (first
                 | (with_reducible first | refine nx ?_ | refine t_seq fun K => ?_ | refine t_br (fun hc => ?_) fun hc => ?_ | refine t_bx ?_ | apply And.intro | intro vr)
                 | ((with_reducible first | refine ny ?_ | refine t_dwh (h := fun K KL => ?_)); intros; simp only [go_sem, geff, con36_f, con34_f, con35_f, con36_c, con34_c, con35_c, g1, g2, hv, Int.toNat_natCast, Bool.not_true]))
                all_goals try exact om
                refine ⟨⟨i + 1, by omega, hF⟩, by simp only; omega, ?_⟩
                (refine Le.frame ?_; repeat' (first | exact leF_top _ | (with_reducible refine leF_sl ?_ ?_) | (refine leF_upd (LeR.of_eq ?_) ?_))) <;> (try (simp only [go_sem]; try rfl))
              · have hv' : vld e v = false := by simpa using hv
                rw [hv', Bool.not_false, Bool.true_or] at hF
                subst hF
                rw [if_pos rfl] at hO
                rw [ofS_err hO (by decide)] at hG
                subst hG
                repeat' (first
                 | (with_reducible first | refine nx ?_ | refine t_seq fun K => ?_ | refine t_br (fun hc => ?_) fun hc => ?_ | refine t_bx ?_ | apply And.intro | intro vr)
                 | ((with_reducible first | refine ny ?_ | refine t_dwh (h := fun K KL => ?_)); intros; simp only [go_sem, geff, con36_f, con34_f, con35_f, con36_c, con34_c, con35_c, g1, g2, hv', Int.toNat_natCast, Bool.not_false]))
                all_goals try exact om
                refine end_ret rfl ?_
                simp only [fin, go_sem]
                exact nilAe_le
            · have g1 : decide ((i : Int) < (x.length : Int)) = false := decide_eq_false (by omega)
              rw [List.drop_eq_nil_of_le hc, List.any_nil] at hF
              subst hF
              rw [if_neg (by decide)] at hO
              rw [ofS_ok hO] at hG
              subst hG
              repeat' (first
               | (with_reducible first | refine nx ?_ | refine t_seq fun K => ?_ | refine t_br (fun hc => ?_) fun hc => ?_ | refine t_bx ?_ | apply And.intro | intro vr)
               | ((with_reducible first | refine ny ?_ | refine t_dwh (h := fun K KL => ?_)); intros; simp only [go_sem, geff, con36_f, con34_f, con35_f, con36_c, con34_c, con35_c, g1, slK_sl]))
              all_goals try exact om
              refine end_ret rfl ?_
              simp only [fin, go_sem]
              exact LeA.refl _
        · have n1 : ((x.length : Int) != n) = true := by rw [bne_iff_ne]; exact hn
          rw [ofS_err (e := 1) (ofE_len t hS2 (by rw [hS1]; exact hn)) (by decide)]
          refine pcO E8_ok (fun _ => [0, 1, 2, 6, 7, 8, 9, 10, 16, 24, 30, 35, 44]) Tryd.func24 (h := fun KF => ?_)
          unfold E8
          repeat' (first
           | (with_reducible first | refine nx ?_ | refine t_seq fun K => ?_ | refine t_br (fun hc => ?_) fun hc => ?_ | refine t_bx ?_ | apply And.intro | intro vr)
           | ((with_reducible first | refine ny ?_ | refine t_dwh (h := fun K KL => ?_)); intros; simp only [go_sem, geff, con36_f, con34_f, con35_f, con36_c, con34_c, con35_c, slK_sl, t1', t2, hS, szV_def, n1]))
          all_goals try exact om
          refine end_ret rfl ?_
          simp only [fin, go_sem]
          exact nilAe_le
      · have e1 : (er != 0) = true := by rw [bne_iff_ne]; exact e0
        rw [ofS_err (by rw [ofE_sz t (by rw [hS2]; exact e0)]) (by rw [hS2]; exact e0)]
        refine pcO E8_ok (fun _ => [0, 1, 2, 6, 7, 8, 9, 10, 16, 24, 30, 35, 44]) Tryd.func24 (h := fun KF => ?_)
        unfold E8
        repeat' (first
         | (with_reducible first | refine nx ?_ | refine t_seq fun K => ?_ | refine t_br (fun hc => ?_) fun hc => ?_ | refine t_bx ?_ | apply And.intro | intro vr)
         | ((with_reducible first | refine ny ?_ | refine t_dwh (h := fun K KL => ?_)); intros; simp only [go_sem, geff, con36_f, con34_f, con35_f, con36_c, con34_c, con35_c, slK_sl, t1', t2, hS, szV_def, e1]))
        all_goals try exact om
        refine end_ret rfl ?_
        simp only [fin, go_sem, hS]
        exact nilAe_le
  · have t' : tyOk e = false := by simpa using t
    have t1 : eqS e ⟨#[105, 110, 116]⟩ = false := (Bool.or_eq_false_iff.1 t').1
    have t2 : eqS e ⟨#[98, 111, 111, 108]⟩ = false := (Bool.or_eq_false_iff.1 t').2
    rw [ofS_err (ofE_ty t') (by decide)]
    refine pcO E8_ok (fun _ => [0, 1, 2, 6, 7, 8, 9, 10, 16, 24, 30, 35, 44]) Tryd.func24 (h := fun KF => ?_)
    unfold E8
    repeat' (first
     | (with_reducible first | refine nx ?_ | refine t_seq fun K => ?_ | refine t_br (fun hc => ?_) fun hc => ?_ | refine t_bx ?_ | apply And.intro | intro vr)
     | ((with_reducible first | refine ny ?_ | refine t_dwh (h := fun K KL => ?_)); intros; simp only [go_sem, geff, con36_f, con34_f, con35_f, con36_c, con34_c, con35_c, t1, t2]))
    all_goals try exact om
    refine end_ret rfl ?_
    simp only [fin, go_sem]
    exact nilAe_le
noncomputable def con24 : PCon Tryd.prog where
  f := 24
  c := fun
    | [.lit (.string e), xd, xx] => match slK .i64 xd, slK .i64 xx with | some d, some x => some (d.length ≤ 1000000 ∧ x.length ≤ 1000000, aeV (ofS ⟨e, d, x⟩)) | _, _ => none
    | _ => none
  ok := by
    intro args p r hc hp
    split at hc
    · split at hc
      · rename_i hd hx
        cases hc
        exact PC.weak ((fun hp : _ ∧ _ => rof_pc hp.1 hp.2) hp) ⟨LeA.refl _, slK_le hd, slK_le hx, trivial⟩
      · cases hc
    · cases hc
  fk := fk24
theorem con24_f : con24.f = 24 := rfl
theorem con24_c {e : ByteArray} {xd : AV} {xx : AV} : con24.c [.lit (.string e), xd, xx] = match slK .i64 xd, slK .i64 xx with | some d, some x => some (d.length ≤ 1000000 ∧ x.length ≤ 1000000, aeV (ofS ⟨e, d, x⟩)) | _, _ => none := rfl
theorem aeV_def {p : Arr × Int} : aeV p = .tup [arrV p.1, .lit (.int .i64 p.2)] := rfl
theorem ofS_snd (a : Arr) : (ofS a).2 = ofE a := by
  unfold ofS
  split
  · rename_i h; exact h.symm
  · rfl
noncomputable def E9 : Env := envOf (P := Tryd.prog) zer (fun _ => false) (fun _ => false) [con24, con11] []
theorem E9_ok : EnvOk Tryd.prog E9 := envOk zer_ok
theorem valid_pc {a : Arr} (hd : a.d.length ≤ 1000000) (hx : a.x.length ≤ 1000000) : PC Tryd.prog 13 [arrV a] (.lit (.bool (ofE a == 0))) := by
  rw [← ofS_snd]
  refine pcO E9_ok (fun _ => [1, 2, 4]) Tryd.func13 (h := fun KF => ?_)
  unfold E9
  repeat' (first
   | (with_reducible first | refine nx ?_ | refine t_seq fun K => ?_ | refine t_br (fun hc => ?_) fun hc => ?_ | refine t_bx ?_ | apply And.intro | intro vr)
   | ((with_reducible first | refine ny ?_ | refine t_dwh (h := fun K KL => ?_)); intros; simp only [go_sem, geff, con24_f, con11_f, con11_c, slK_sl, arrV_def, aeV_def]))
  all_goals try exact om
  refine end_ret rfl ?_
  simp only [fin, go_sem]
  exact LeA.refl _
theorem rvalid_pc {a : Arr} (hd : a.d.length ≤ 1000000) (hx : a.x.length ≤ 1000000) : PC Tryd.prog 16 [arrV a] (.lit (.bool (ofE a == 0))) := by
  rw [← ofS_snd]
  refine pcO E9_ok (fun _ => [1, 2, 4]) Tryd.func16 (h := fun KF => ?_)
  unfold E9
  repeat' (first
   | (with_reducible first | refine nx ?_ | refine t_seq fun K => ?_ | refine t_br (fun hc => ?_) fun hc => ?_ | refine t_bx ?_ | apply And.intro | intro vr)
   | ((with_reducible first | refine ny ?_ | refine t_dwh (h := fun K KL => ?_)); intros; simp only [go_sem, geff, con24_f, con11_f, con24_c, slK_sl, arrV_def, aeV_def]))
  all_goals try exact om
  refine end_ret rfl ?_
  simp only [fin, go_sem]
  exact LeA.refl _
noncomputable def con13 : PCon Tryd.prog where
  f := 13
  c := fun
    | [xa] => match arrOf xa with | some a => some (a.d.length ≤ 1000000 ∧ a.x.length ≤ 1000000, .lit (.bool (ofE a == 0))) | _ => none
    | _ => none
  ok := by
    intro args p r hc hp
    split at hc
    · split at hc
      · rename_i ha
        cases hc
        exact PC.weak ((fun hp : _ ∧ _ => valid_pc hp.1 hp.2) hp) ⟨arrOf_le ha, trivial⟩
      · cases hc
    · cases hc
  fk := fk13
theorem con13_f : con13.f = 13 := rfl
theorem con13_c {xa : AV} : con13.c [xa] = match arrOf xa with | some a => some (a.d.length ≤ 1000000 ∧ a.x.length ≤ 1000000, .lit (.bool (ofE a == 0))) | _ => none := rfl
noncomputable def con16 : PCon Tryd.prog where
  f := 16
  c := fun
    | [xa] => match arrOf xa with | some a => some (a.d.length ≤ 1000000 ∧ a.x.length ≤ 1000000, .lit (.bool (ofE a == 0))) | _ => none
    | _ => none
  ok := by
    intro args p r hc hp
    split at hc
    · split at hc
      · rename_i ha
        cases hc
        exact PC.weak ((fun hp : _ ∧ _ => rvalid_pc hp.1 hp.2) hp) ⟨arrOf_le ha, trivial⟩
      · cases hc
    · cases hc
  fk := fk16
theorem con16_f : con16.f = 16 := rfl
theorem con16_c {xa : AV} : con16.c [xa] = match arrOf xa with | some a => some (a.d.length ≤ 1000000 ∧ a.x.length ≤ 1000000, .lit (.bool (ofE a == 0))) | _ => none := rfl
end Go.Proofs.YtdndgmcmmbjjkaaDoor

/- Frames and cells' dimensions; small arrays; zeros. -/
namespace Go.Proofs.YtdndgmcmmbjjkaaDoor
open Go Go.Fw
set_option maxRecDepth 20000

def okA (a : Arr) : Prop := a.d.length ≤ 1000000 ∧ a.x.length ≤ 1000000
def fewA (a : Arr) (n : Int) : Bool := decide ((a.e.size : Int) ≤ 20) && (decide ((a.d.length : Int) ≤ 8) && decide ((a.x.length : Int) ≤ n))
theorem few_pc {a : Arr} {n : Int} : PC Tryd.prog 5 [arrV a, .lit (.int .i64 n)] (.lit (.bool (fewA a n))) := by
  unfold fewA
  by_cases h1 : (a.e.size : Int) ≤ 20
  · have e1 : decide ((a.e.size : Int) ≤ 20) = true := decide_eq_true h1
    by_cases h2 : (a.d.length : Int) ≤ 8
    · have e2 : decide ((a.d.length : Int) ≤ 8) = true := decide_eq_true h2
      rw [e1, e2]
      refine pcO E0_ok (fun _ => [1, 2, 4]) Tryd.func5 (h := fun KF => ?_)
      unfold E0
      repeat' (first
       | (with_reducible first | refine nx ?_ | refine t_seq fun K => ?_ | refine t_br (fun hc => ?_) fun hc => ?_ | refine t_bx ?_ | apply And.intro | intro vr)
       | ((with_reducible first | refine ny ?_ | refine t_dwh (h := fun K KL => ?_)); intros; simp only [go_sem, geff, arrV_def, e1, e2]))
      all_goals try exact om
      refine end_ret rfl ?_
      simp only [fin, go_sem]
      exact LeA.refl _
    · have e2 : decide ((a.d.length : Int) ≤ 8) = false := decide_eq_false h2
      rw [e1, e2]
      refine pcO E0_ok (fun _ => [1, 2, 4]) Tryd.func5 (h := fun KF => ?_)
      unfold E0
      repeat' (first
       | (with_reducible first | refine nx ?_ | refine t_seq fun K => ?_ | refine t_br (fun hc => ?_) fun hc => ?_ | refine t_bx ?_ | apply And.intro | intro vr)
       | ((with_reducible first | refine ny ?_ | refine t_dwh (h := fun K KL => ?_)); intros; simp only [go_sem, geff, arrV_def, e1, e2]))
      all_goals try exact om
      refine end_ret rfl ?_
      simp only [fin, go_sem]
      exact LeA.refl _
  · have e1 : decide ((a.e.size : Int) ≤ 20) = false := decide_eq_false h1
    rw [e1]
    refine pcO E0_ok (fun _ => [1, 2, 4]) Tryd.func5 (h := fun KF => ?_)
    unfold E0
    repeat' (first
     | (with_reducible first | refine nx ?_ | refine t_seq fun K => ?_ | refine t_br (fun hc => ?_) fun hc => ?_ | refine t_bx ?_ | apply And.intro | intro vr)
     | ((with_reducible first | refine ny ?_ | refine t_dwh (h := fun K KL => ?_)); intros; simp only [go_sem, geff, arrV_def, e1]))
    all_goals try exact om
    refine end_ret rfl ?_
    simp only [fin, go_sem]
    exact LeA.refl _
noncomputable def con5 : PCon Tryd.prog where
  f := 5
  c := fun
    | [xa, .lit (.int .i64 n)] => match arrOf xa with | some a => some (True, .lit (.bool (fewA a n))) | _ => none
    | _ => none
  ok := by
    intro args p r hc hp
    split at hc
    · split at hc
      · rename_i ha
        cases hc
        exact PC.weak few_pc ⟨arrOf_le ha, LeA.refl _, trivial⟩
      · cases hc
    · cases hc
  fk := fk5
theorem con5_f : con5.f = 5 := rfl
theorem con5_c {xa : AV} {n : Int} : con5.c [xa, .lit (.int .i64 n)] = match arrOf xa with | some a => some (True, .lit (.bool (fewA a n))) | _ => none := rfl
end Go.Proofs.YtdndgmcmmbjjkaaDoor

/- Common frames. -/
namespace Go.Proofs.YtdndgmcmmbjjkaaDoor
open Go Go.Fw
set_option maxRecDepth 20000

theorem le_nil {n0 : Nat} {f : Nat → AV} {σ : List AObj} (i e sz : Nat) (h : f i = .lit (.slice none 0 0)) : Le n0 ⟨f, σ⟩ ⟨upd f i (.arr σ.length 0), σ ++ [.arr e sz [] 0 false]⟩ := by
  intro cx G w N a _ hr hf
  obtain ⟨G', h1, h2, h3⟩ := Rel.newEmpty hr e sz none
  refine ⟨G', h2, hf.size, hf.defers, fun j => ?_⟩
  have hj : R G' (f j) (a.tmps.getD j undef) := (hf.rel j).mono h1
  simp only [upd]
  split
  · rename_i e; subst e; rw [h] at hj; rw [hj.lit_inv]; exact h3
  · exact hj
end Go.Proofs.YtdndgmcmmbjjkaaDoor

/- A law's arguments that are structs. -/
namespace Go.Proofs.YtdndgmcmmbjjkaaDoor
open Go Go.Fw
set_option maxRecDepth 20000

def fieldTs (P : Program) (t : TypeId) : List TypeId := match P.underlying t with
  | some (.struct fs) => fs.toList.map (·.type)
  | _ => []
theorem struct_of {P : Program} {t : TypeId} {ts : List TypeId} (hne : ts ≠ []) (h : fieldTs P t = ts) : ∃ fs : Array Field, P.underlying t = some (.struct fs) ∧ fs.toList.map (·.type) = ts := by
  unfold fieldTs at h
  split at h
  · rename_i e; exact ⟨_, e, h⟩
  · exact absurd h.symm hne
theorem sh_fields {P : Program} {t : TypeId} {ts : List TypeId} {xs : List AV} (hne : ts ≠ []) (ht : fieldTs P t = ts) (h : Sh P t xs) :
    ∃ xss : List (List AV), xs = xss.flatten ∧ xss.length = ts.length ∧ ∀ (i : Nat) (u : TypeId) (ys : List AV), ts[i]? = some u → xss[i]? = some ys → Sh P u ys := by
  obtain ⟨fs, hf, hm⟩ := struct_of hne ht
  obtain ⟨xss, h1, h2, h3⟩ := sh_struct hf h
  refine ⟨xss, h1, by rw [h2, ← hm]; simp, fun i u ys hu hy => ?_⟩
  rw [← hm, List.getElem?_map] at hu
  cases hi : fs.toList[i]? with
  | none => rw [hi] at hu; cases hu
  | some f => rw [hi] at hu; cases hu; exact h3 i f ys hi hy
theorem sh_three {P : Program} {t a b c : TypeId} {xs : List AV} (ht : fieldTs P t = [a, b, c]) (h : Sh P t xs) : ∃ p q r, xs = p ++ (q ++ r) ∧ Sh P a p ∧ Sh P b q ∧ Sh P c r := by
  obtain ⟨xss, h1, h2, h3⟩ := sh_fields (by simp) ht h
  match xss, h2 with
  | [p, q, r], _ => exact ⟨p, q, r, by simpa using h1, h3 0 a p rfl rfl, h3 1 b q rfl rfl, h3 2 c r rfl rfl⟩
theorem ft24 : fieldTs Tryd.prog 24 = [9, 22, 22] := by kernel_rfl
def okW (a : Arr) : Prop := (∀ n ∈ a.d, inI64 n) ∧ (∀ n ∈ a.x, inI64 n) ∧ a.d.length ≤ maxLen ∧ a.x.length ≤ maxLen
theorem shv_arr {x : AV} (h : ShV Tryd.prog 24 x) : ∃ a : Arr, x = arrV a ∧ okW a := by
  obtain ⟨c, rfl, hc⟩ := shv_agg ag24 h
  obtain ⟨p, q, r, rfl, hp, hq, hr⟩ := sh_three ft24 hc
  obtain ⟨s, rfl, hs⟩ := sh_str u9 hp
  obtain ⟨d, rfl, hd, hd'⟩ := sh_ints u22 u3 sz3 hq
  obtain ⟨w, rfl, hw, hw'⟩ := sh_ints u22 u3 sz3 hr
  exact ⟨⟨s, d, w⟩, rfl, fun n hn => wf_i64 (hd' n hn), fun n hn => wf_i64 (hw' n hn), hd, hw⟩
end Go.Proofs.YtdndgmcmmbjjkaaDoor

/- The examples of the document; the law on frames. -/
namespace Go.Proofs.YtdndgmcmmbjjkaaDoor
open Go Go.Fw
set_option maxRecDepth 20000

end Go.Proofs.YtdndgmcmmbjjkaaDoor

/- Products of dimensions, places, cells: plain facts. -/
namespace Go.Fw
end Go.Fw
namespace Go.Proofs.YtdndgmcmmbjjkaaDoor
open Go Go.Fw
set_option maxRecDepth 20000

end Go.Proofs.YtdndgmcmmbjjkaaDoor

/- Cells. -/
namespace Go.Proofs.YtdndgmcmmbjjkaaDoor
open Go Go.Fw
set_option maxRecDepth 20000

end Go.Proofs.YtdndgmcmmbjjkaaDoor

/- Equal arrays; the law on frames and cells. -/
namespace Go.Proofs.YtdndgmcmmbjjkaaDoor
open Go Go.Fw
set_option maxRecDepth 20000

def eqA (a b : Arr) : Bool := eqS a.e b.e && (decide (a.d = b.d) && decide (a.x = b.x))
noncomputable def E21 : Env := envOf (P := Tryd.prog) zer (fun _ => false) (fun _ => false) [con22] []
theorem E21_ok : EnvOk Tryd.prog E21 := envOk zer_ok
set_option maxRecDepth 20000 in
set_option maxHeartbeats 1000000 in
theorem eqa_pc {a b : Arr} (ha : okA a) : PC Tryd.prog 9 [arrV a, arrV b] (.lit (.bool (eqA a b))) := by
  have ha1 := ha.1
  have ha2 := ha.2
  unfold eqA
  by_cases h1 : eqS a.e b.e = true
  · by_cases h2 : a.d = b.d
    · have d2 : decide (a.d = b.d) = true := decide_eq_true h2
      rw [h1, d2]
      refine pcO E21_ok (fun _ => [2, 3, 4]) Tryd.func9 (h := fun KF => ?_)
      unfold E21
      repeat' (first
       | (with_reducible first | refine nx ?_ | refine t_seq fun K => ?_ | refine t_br (fun hc => ?_) fun hc => ?_ | refine t_bx ?_ | apply And.intro | intro vr)
       | ((with_reducible first | refine ny ?_ | refine t_dwh (h := fun K KL => ?_)); intros; simp only [go_sem, geff, con22_f, con22_c, arrV_def, slK_sl, h1, d2]))
      all_goals try exact om
      refine end_ret rfl ?_
      simp only [fin, go_sem]
      exact LeA.refl _
    · have d2 : decide (a.d = b.d) = false := decide_eq_false h2
      rw [h1, d2]
      refine pcO E21_ok (fun _ => [2, 3, 4]) Tryd.func9 (h := fun KF => ?_)
      unfold E21
      repeat' (first
       | (with_reducible first | refine nx ?_ | refine t_seq fun K => ?_ | refine t_br (fun hc => ?_) fun hc => ?_ | refine t_bx ?_ | apply And.intro | intro vr)
       | ((with_reducible first | refine ny ?_ | refine t_dwh (h := fun K KL => ?_)); intros; simp only [go_sem, geff, con22_f, con22_c, arrV_def, slK_sl, h1, d2]))
      all_goals try exact om
      refine end_ret rfl ?_
      simp only [fin, go_sem]
      exact LeA.refl _
  · have h1' : eqS a.e b.e = false := by simpa using h1
    rw [h1']
    refine pcO E21_ok (fun _ => [2, 3, 4]) Tryd.func9 (h := fun KF => ?_)
    unfold E21
    repeat' (first
     | (with_reducible first | refine nx ?_ | refine t_seq fun K => ?_ | refine t_br (fun hc => ?_) fun hc => ?_ | refine t_bx ?_ | apply And.intro | intro vr)
     | ((with_reducible first | refine ny ?_ | refine t_dwh (h := fun K KL => ?_)); intros; simp only [go_sem, geff, con22_f, con22_c, arrV_def, slK_sl, h1']))
    all_goals try exact om
    refine end_ret rfl ?_
    simp only [fin, go_sem]
    exact LeA.refl _
noncomputable def con9 : PCon Tryd.prog where
  f := 9
  c := fun
    | [xa, xb] => match arrOf xa, arrOf xb with | some a, some b => some (okA a, .lit (.bool (eqA a b))) | _, _ => none
    | _ => none
  ok := by
    intro args p r hc hp
    split at hc
    · split at hc
      · rename_i ha hb
        cases hc
        exact PC.weak (eqa_pc hp) ⟨arrOf_le ha, arrOf_le hb, trivial⟩
      · cases hc
    · cases hc
  fk := fk9
theorem con9_f : con9.f = 9 := rfl
theorem con9_c {xa : AV} {xb : AV} : con9.c [xa, xb] = match arrOf xa, arrOf xb with | some a, some b => some (okA a, .lit (.bool (eqA a b))) | _, _ => none := rfl
end Go.Proofs.YtdndgmcmmbjjkaaDoor

/- Lists of lists; axes. -/
namespace Go.Proofs.YtdndgmcmmbjjkaaDoor
open Go Go.Fw
set_option maxRecDepth 20000

def ilA (l : List Int) : AV := .sl false 1 (ints .i64 l)
def ils (L : List (List Int)) : List AV := L.map ilA
def axOk (n : Int) (axes : List Int) (i : Nat) : Bool := !decide (axes.getD i 0 < 0) && (!decide (axes.getD i 0 ≥ n) && !(decide ((i : Int) > 0) && decide (axes.getD (i - 1) 0 ≥ axes.getD i 0)))
def axP (n : Int) (axes : List Int) : Prop := ∀ i, i < axes.length → axOk n axes i = true
instance (n : Int) (axes : List Int) : Decidable (axP n axes) := inferInstanceAs (Decidable (∀ i, i < axes.length → axOk n axes i = true))
end Go.Proofs.YtdndgmcmmbjjkaaDoor

/- The entries of structure: dimensions, places. -/
namespace Go.Proofs.YtdndgmcmmbjjkaaDoor
open Go Go.Fw
set_option maxRecDepth 20000

def jA : AV := arrV nilA
def jI : AV := .sl false 1 []
def jk : TypeId → AV := lookZ [(3, .lit (.int .i64 0)), (9, .lit (.string ByteArray.empty)), (22, jI), (24, jA)]
theorem jk3 : jk 3 = .lit (.int .i64 0) := rfl
theorem jk9 : jk 9 = .lit (.string ByteArray.empty) := rfl
theorem jk22 : jk 22 = jI := rfl
theorem jk24 : jk 24 = jA := rfl
theorem arrs_getJ (l : List Arr) (i : Nat) : (arrs l).getD i jA = arrV (l.getD i nilA) := by
  simp only [arrs, jA, List.getD_eq_getElem?_getD, List.getElem?_map]; cases l[i]? <;> rfl
theorem ils_getJ (l : List (List Int)) (i : Nat) : (ils l).getD i jI = .sl false 1 (ints .i64 (l.getD i [])) := by
  simp only [ils, jI, List.getD_eq_getElem?_getD, List.getElem?_map]; cases l[i]? <;> rfl
attribute [go_sem] jk3 jk9 jk22 jk24 arrs_getJ ils_getJ
end Go.Proofs.YtdndgmcmmbjjkaaDoor

/- The library's functions on texts: prefixes, one byte found, texts cut and split at one byte. -/
namespace Go.Proofs.YtdndgmcmmbjjkaaDoor.Tx
open Go.Proofs.YtdndgmcmmbjjkaaDoor
open Go Go.Fw
set_option maxRecDepth 20000
def bs (l : List UInt8) : ByteArray := ⟨l.toArray⟩
theorem bs_data (s : ByteArray) : bs s.data.toList = s := by cases s; simp [bs]
theorem bs_ex (s : ByteArray) : ∃ l, s = bs l := ⟨_, (bs_data s).symm⟩
theorem data_bs (l : List UInt8) : (bs l).data.toList = l := by simp [bs]
theorem bs_size (l : List UInt8) : (bs l).size = l.length := by simp [bs, ByteArray.size]
theorem eqS_bs (a b : List UInt8) : eqS (bs a) (bs b) = (a == b) := by unfold eqS; rw [data_bs, data_bs]
theorem bs_app (a b : List UInt8) : bs a ++ bs b = bs (a ++ b) := by
  apply ByteArray.ext
  simp [bs, ByteArray.data_append]
theorem bs_ext (l : List UInt8) (a b : Nat) : (bs l).extract a b = bs ((l.take b).drop a) := by
  apply ByteArray.ext
  simp [bs, ByteArray.data_extract, List.drop_take]
theorem bs_empty : ByteArray.empty = bs [] := rfl
def ul (s : ByteArray) : List UInt8 := s.data.toList
theorem ul_bs (l : List UInt8) : ul (bs l) = l := data_bs l
def bt (l : List UInt8) (i : Nat) : Int := ((l.getD i 0).toNat : Int)
theorem strAt_bt (l : List UInt8) (i : Nat) : strAt (bs l) i = bt l i := by unfold strAt; rw [data_bs]; rfl
theorem take_all {α : Type} (l : List α) : l.take l.length = l := List.take_length
theorem drop_take0 {α : Type} (l : List α) (n : Nat) : (l.take n).drop 0 = l.take n := rfl
theorem l32 : (⟨#[32]⟩ : ByteArray) = bs [32] := rfl
theorem l58 : (⟨#[58]⟩ : ByteArray) = bs [58] := rfl
theorem l0 : (⟨#[]⟩ : ByteArray) = bs [] := rfl
theorem l93 : (⟨#[93]⟩ : ByteArray) = bs [93] := rfl
theorem l35 : (⟨#[35, 91]⟩ : ByteArray) = bs [35, 91] := rfl
theorem l98 : (⟨#[35, 98, 91]⟩ : ByteArray) = bs [35, 98, 91] := rfl
attribute [go_sem] eqS_bs bs_size bs_app bs_ext strAt_bt ul_bs take_all drop_take0 l32 l58 l0 l93 l35 l98 bs_empty
def txs (l : List (List UInt8)) : List AV := l.map fun w => .lit (.string (bs w))
theorem txs_length (l : List (List UInt8)) : (txs l).length = l.length := by simp [txs]
theorem txs_getJ (l : List (List UInt8)) (i : Nat) : (txs l).getD i (.lit (.string (bs []))) = .lit (.string (bs (l.getD i []))) := by
  simp only [txs, List.getD_eq_getElem?_getD, List.getElem?_map]; cases l[i]? <;> rfl
theorem txs_scal (l : List (List UInt8)) : (txs l).all scal0 = true := by simp [txs, scal0]
theorem txs_append1 (l : List (List UInt8)) (w : List UInt8) : txs l ++ [.lit (.string (bs w))] = txs (l ++ [w]) := by simp [txs]
theorem txs_set (l : List (List UInt8)) (i : Nat) (w : List UInt8) : (txs l).set i (.lit (.string (bs w))) = txs (l.set i w) := by simp [txs, List.map_set]
theorem txs_rep (n : Nat) : List.replicate n (.lit (.string (bs []))) = txs (List.replicate n []) := by simp [txs]
theorem bytesI_bs (l : List UInt8) (i : Nat) : (bytesI (bs l)).getD i 0 = bt l i := by
  simp only [bytesI, data_bs, bt, List.getD_eq_getElem?_getD, List.getElem?_map]; cases l[i]? <;> rfl
theorem bytesI_len (l : List UInt8) : (bytesI (bs l)).length = l.length := by simp [bytesI, data_bs]
def jkT : TypeId → AV := lookZ [(3, .lit (.int .i64 0)), (5, .lit (.int .u8 0)), (9, .lit (.string (bs [])))]
theorem jkT3 : jkT 3 = .lit (.int .i64 0) := rfl
theorem jkT5 : jkT 5 = .lit (.int .u8 0) := rfl
theorem jkT9 : jkT 9 = .lit (.string (bs [])) := rfl
attribute [go_sem] jkT3 jkT5 jkT9 txs_length txs_getJ txs_scal txs_append1 txs_set txs_rep bytesI_bs bytesI_len
/-! ### The model's own functions -/
def fam (f : FuncId) (args : List AV) : VR := match args with
  | [.lit (.string s), .lit (.int .u8 c)] => if f = 70 then some (True, .lit (.int .i64 (Lib.indexByte (ul s) c.toNat.toUInt8))) else none
  | _ => none
theorem args2 {C : Nat → Nat → Option Value} {a b : Value} {vs : List Value} (h : RL C [.lit a, .lit b] vs) : vs = [a, b] := by
  obtain ⟨h1, h2⟩ := h
  match vs, h1 with
  | [x, y], _ =>
    have e1 : x = a := by have h := h2 0 (by simp); simp only [List.getD_cons_zero] at h; cases h; rfl
    have e2 : y = b := by have h := h2 1 (by simp); simp only [List.getD_cons_succ, List.getD_cons_zero] at h; cases h; rfl
    rw [e1, e2]
theorem fam_ok : ∀ f args p r, fam f args = some (p, r) → p → (fok Tryd.prog f = true ∧ PC Tryd.prog f args r) ∨ XC Tryd.prog f args r := by
  intro f args p r h hp
  unfold fam at h
  split at h
  · rename_i s c
    split at h
    · rename_i hf; subst hf; cases h
      refine .inr fun C w vs hl => ⟨_, ?_, .lit _⟩
      rw [args2 hl, run_callFunc_extern Tryd.func70 (by kernel_rfl) (by kernel_rfl) (by kernel_rfl) (e := Extern.BytealgIndexByte.indexByte) (by kernel_rfl), Lib.run_indexByteString]
      rfl
    · cases h
  · cases h
theorem fam70 {s : ByteArray} {c : Int} : fam 70 [.lit (.string s), .lit (.int .u8 c)] = some (True, .lit (.int .i64 (Lib.indexByte (ul s) c.toNat.toUInt8))) := rfl
noncomputable def X0 : Env := envM (P := Tryd.prog) fam jkT zer (fun _ => false) (fun _ => false) [] []
theorem X0_ok : EnvOk Tryd.prog X0 := envMOk zer_ok fam_ok
theorem sib_pc {s : ByteArray} {c : Int} : PC Tryd.prog 55 [.lit (.string s), .lit (.int .u8 c)] (.lit (.int .i64 (Lib.indexByte (ul s) c.toNat.toUInt8))) := by
  refine pcR X0_ok (kp55) Tryd.func55 [.tmp 4] (h := fun KF => ?_)
  unfold X0
  repeat' (first
   | (with_reducible first | refine nx ?_ | refine t_seq fun K => ?_ | refine t_br (fun hc => ?_) fun hc => ?_ | refine t_bx ?_ | apply And.intro | intro vr)
   | ((with_reducible first | refine ny ?_ | refine t_dwh (h := fun K KL => ?_)); intros; simp only [go_sem, kp55, geff, fam70]))
  all_goals try exact nd
  all_goals (refine nl ?_; simp only [go_sem])
  exact LeA.refl _
noncomputable def con55 : PCon Tryd.prog where
  f := 55
  c := fun
    | [.lit (.string s), .lit (.int .u8 c)] => some (True, .lit (.int .i64 (Lib.indexByte (ul s) c.toNat.toUInt8)))
    | _ => none
  ok := by
    intro args p r hc hp
    split at hc
    · cases hc; exact sib_pc
    · cases hc
  fk := fk55
theorem con55_f : con55.f = 55 := rfl
theorem con55_c {s : ByteArray} {c : Int} : con55.c [.lit (.string s), .lit (.int .u8 c)] = some (True, .lit (.int .i64 (Lib.indexByte (ul s) c.toNat.toUInt8))) := rfl
attribute [go_sem] con55_f con55_c
noncomputable def X1 : Env := envJ (P := Tryd.prog) jkT zer (fun _ => false) (fun _ => false) [con55] []
theorem X1_ok : EnvOk Tryd.prog X1 := envJOk zer_ok
/-- One byte found in a text. -/
theorem idx_pc {l : List UInt8} {c : UInt8} : PC Tryd.prog 44 [.lit (.string (bs l)), .lit (.string (bs [c]))] (.lit (.int .i64 (Lib.indexByte l c))) := by
  have g1 : ((1 : Int) == 0) = false := by decide
  have g2 : ((1 : Int) == 1) = true := by decide
  refine pcR X1_ok (kp44) Tryd.func44 [.tmp 4] (h := fun KF => ?_)
  unfold X1
  repeat' (first
   | (with_reducible first | refine nx ?_ | refine t_seq fun K => ?_ | refine t_br (fun hc => ?_) fun hc => ?_ | refine t_bx ?_ | apply And.intro | intro vr)
   | ((with_reducible first | refine ny ?_ | refine t_dwh (h := fun K KL => ?_)); intros; simp only [go_sem, kp44, geff, g1, g2, Int.toNat_natCast, bt, List.length_cons, List.length_nil, List.getD_cons_zero]))
  all_goals try exact nd
  all_goals (refine nl ?_; simp only [go_sem])
  · have e : l = [c] := by
      simp only [beq_iff_eq] at hc
      exact hc.symm
    subst e
    exact LeA.of_eq (by simp [Lib.indexByte])
  · exact LeA.of_eq (by simp)
noncomputable def con44 : PCon Tryd.prog where
  f := 44
  c := fun
    | [.lit (.string s), .lit (.string p)] => match ul p with
      | [c] => some (True, .lit (.int .i64 (Lib.indexByte (ul s) c)))
      | _ => none
    | _ => none
  ok := by
    intro args p r hc hp
    split at hc
    · rename_i s q
      obtain ⟨l, rfl⟩ := bs_ex s
      obtain ⟨m, rfl⟩ := bs_ex q
      rw [ul_bs, ul_bs] at hc
      split at hc
      · cases hc; exact idx_pc
      · cases hc
    · cases hc
  fk := fk44
theorem con44_f : con44.f = 44 := rfl
theorem con44_c {l : List UInt8} {c : UInt8} : con44.c [.lit (.string (bs l)), .lit (.string (bs [c]))] = some (True, .lit (.int .i64 (Lib.indexByte l c))) := by
  show (match ul (bs [c]) with
      | [c] => some (True, AV.lit (.int .i64 (Lib.indexByte (ul (bs l)) c)))
      | _ => none) = _
  rw [ul_bs, ul_bs]
attribute [go_sem] con44_f con44_c
/-! ### Cut -/
/-- The two sides of the first byte that is c, if there is one. -/
def cutS (c : UInt8) : List UInt8 → Option (List UInt8 × List UInt8)
  | [] => none
  | b :: l => if b = c then some ([], l) else (cutS c l).map fun p => (b :: p.1, p.2)
theorem cutS_none {c : UInt8} {l : List UInt8} (h : cutS c l = none) : Lib.indexByte l c = -1 ∧ c ∉ l := by
  induction l with
  | nil => exact ⟨rfl, by simp⟩
  | cons b l ih =>
    simp only [cutS] at h
    split at h
    · cases h
    · rename_i hc
      simp only [Option.map_eq_none_iff] at h
      obtain ⟨h1, h2⟩ := ih h
      exact ⟨by simp [Lib.indexByte, hc, h1], by simp [h2, Ne.symm hc]⟩
theorem cutS_some {c : UInt8} {l a b : List UInt8} (h : cutS c l = some (a, b)) : Lib.indexByte l c = a.length ∧ l = a ++ c :: b ∧ c ∉ a := by
  induction l generalizing a with
  | nil => cases h
  | cons x l ih =>
    simp only [cutS] at h
    split at h
    · rename_i hc; subst hc; cases h; simp [Lib.indexByte]
    · rename_i hc
      simp only [Option.map_eq_some_iff] at h
      obtain ⟨⟨a', b'⟩, h1, h2⟩ := h
      simp only [Prod.mk.injEq] at h2
      obtain ⟨rfl, rfl⟩ := h2
      obtain ⟨i1, i2, i3⟩ := ih h1
      refine ⟨?_, by rw [i2]; simp, by simp [i3, Ne.symm hc]⟩
      simp only [Lib.indexByte, i1]
      simp [hc]
def cutV (c : UInt8) (l : List UInt8) : AV := match cutS c l with
  | some (a, b) => .tup [.lit (.string (bs a)), .lit (.string (bs b)), .lit (.bool true)]
  | none => .tup [.lit (.string (bs l)), .lit (.string (bs [])), .lit (.bool false)]
noncomputable def X2 : Env := envJ (P := Tryd.prog) jkT zer (fun _ => false) (fun _ => false) [con44] []
theorem X2_ok : EnvOk Tryd.prog X2 := envJOk zer_ok
theorem scut_pc {l : List UInt8} (hs : l.length ≤ 1000000000) : PC Tryd.prog 31 [.lit (.string (bs l)), .lit (.string (bs [58]))] (cutV 58 l) := by
  cases hq : cutS 58 l with
  | none =>
    obtain ⟨h1, _⟩ := cutS_none hq
    refine pcR X2_ok (kp31) Tryd.func31 [.tmp 4, .tmp 5, .tmp 6] (h := fun KF => ?_)
    unfold X2
    repeat' (first
     | (with_reducible first | refine nx ?_ | refine t_seq fun K => ?_ | refine t_br (fun hc => ?_) fun hc => ?_ | refine t_bx ?_ | apply And.intro | intro vr)
     | ((with_reducible first | refine ny ?_ | refine t_dwh (h := fun K KL => ?_)); intros; simp only [go_sem, kp31, geff, h1]))
    all_goals try exact nd
    all_goals (refine nl ?_; simp only [go_sem])
    exact LeA.of_eq (by simp [cutV, hq])
  | some p =>
    obtain ⟨a, b⟩ := p
    obtain ⟨h1, h2, _⟩ := cutS_some hq
    have e1 : l.take a.length = a := by rw [h2]; simp
    have e2 : l.drop (a.length + 1) = b := by rw [h2]; simp
    have hl : l.length = a.length + (b.length + 1) := by rw [h2]; simp
    have e3 : ((a.length : Int) + 1).toNat = a.length + 1 := by omega
    have g1 : decide ((a.length : Int) ≥ 0) = true := decide_eq_true (by omega)
    refine pcR X2_ok (kp31) Tryd.func31 [.tmp 4, .tmp 5, .tmp 6] (h := fun KF => ?_)
    unfold X2
    repeat' (first
     | (with_reducible first | refine nx ?_ | refine t_seq fun K => ?_ | refine t_br (fun hc => ?_) fun hc => ?_ | refine t_bx ?_ | apply And.intro | intro vr)
     | ((with_reducible first | refine ny ?_ | refine t_dwh (h := fun K KL => ?_)); intros; simp only [go_sem, kp31, geff, h1, g1, e1, e2, e3, Int.toNat_natCast, List.length_cons, List.length_nil]))
    all_goals try omega
    all_goals try exact nd
    all_goals (refine nl ?_; simp only [go_sem])
    exact LeA.of_eq (by simp [cutV, hq, e1, e2])
noncomputable def con31 : PCon Tryd.prog where
  f := 31
  c := fun
    | [.lit (.string s), .lit (.string p)] => if p = bs [58] then some ((ul s).length ≤ 1000000000, cutV 58 (ul s)) else none
    | _ => none
  ok := by
    intro args p r hc hp
    split at hc
    · rename_i s q
      obtain ⟨l, rfl⟩ := bs_ex s
      split at hc
      · rename_i h; subst h; cases hc; rw [ul_bs] at *; exact scut_pc hp
      · cases hc
    · cases hc
  fk := fk31
theorem con31_f : con31.f = 31 := rfl
theorem con31_c {l : List UInt8} : con31.c [.lit (.string (bs l)), .lit (.string (bs [58]))] = some (l.length ≤ 1000000000, cutV 58 l) := by
  show (if bs [58] = bs [58] then some ((ul (bs l)).length ≤ 1000000000, cutV 58 (ul (bs l))) else none) = _
  rw [if_pos rfl, ul_bs]
theorem cutV_some {c : UInt8} {l a b : List UInt8} (h : cutS c l = some (a, b)) : cutV c l = .tup [.lit (.string (bs a)), .lit (.string (bs b)), .lit (.bool true)] := by unfold cutV; rw [h]
theorem cutV_none {c : UInt8} {l : List UInt8} (h : cutS c l = none) : cutV c l = .tup [.lit (.string (bs l)), .lit (.string (bs [])), .lit (.bool false)] := by unfold cutV; rw [h]
attribute [go_sem] con31_f con31_c
noncomputable def X3 : Env := envJ (P := Tryd.prog) jkT zer (fun _ => false) (fun _ => false) [con31] []
theorem X3_ok : EnvOk Tryd.prog X3 := envJOk zer_ok
theorem cut_pc {l : List UInt8} (hs : l.length ≤ 1000000000) : PC Tryd.prog 20 [.lit (.string (bs l)), .lit (.string (bs [58]))] (cutV 58 l) := by
  cases hq : cutS 58 l with
  | none =>
    rw [cutV_none hq]
    refine pcR X3_ok (kp20) Tryd.func20 [.tmp 4, .tmp 5, .tmp 6] (h := fun KF => ?_)
    unfold X3
    repeat' (first
     | (with_reducible first | refine nx ?_ | refine t_seq fun K => ?_ | refine t_br (fun hc => ?_) fun hc => ?_ | refine t_bx ?_ | apply And.intro | intro vr)
     | ((with_reducible first | refine ny ?_ | refine t_dwh (h := fun K KL => ?_)); intros; simp only [go_sem, kp20, geff, cutV_none hq]))
    all_goals try exact nd
    all_goals (refine nl ?_; simp only [go_sem])
    exact LeA.refl _
  | some p =>
    obtain ⟨a, b⟩ := p
    rw [cutV_some hq]
    refine pcR X3_ok (kp20) Tryd.func20 [.tmp 4, .tmp 5, .tmp 6] (h := fun KF => ?_)
    unfold X3
    repeat' (first
     | (with_reducible first | refine nx ?_ | refine t_seq fun K => ?_ | refine t_br (fun hc => ?_) fun hc => ?_ | refine t_bx ?_ | apply And.intro | intro vr)
     | ((with_reducible first | refine ny ?_ | refine t_dwh (h := fun K KL => ?_)); intros; simp only [go_sem, kp20, geff, cutV_some hq]))
    all_goals try exact nd
    all_goals (refine nl ?_; simp only [go_sem])
    exact LeA.refl _
noncomputable def con20 : PCon Tryd.prog where
  f := 20
  c := fun
    | [.lit (.string s), .lit (.string p)] => if p = bs [58] then some ((ul s).length ≤ 1000000000, cutV 58 (ul s)) else none
    | _ => none
  ok := by
    intro args p r hc hp
    split at hc
    · rename_i s q
      obtain ⟨l, rfl⟩ := bs_ex s
      split at hc
      · rename_i h; subst h; cases hc; rw [ul_bs] at *; exact cut_pc hp
      · cases hc
    · cases hc
  fk := fk20
theorem con20_f : con20.f = 20 := rfl
theorem con20_c {l : List UInt8} : con20.c [.lit (.string (bs l)), .lit (.string (bs [58]))] = some (l.length ≤ 1000000000, cutV 58 l) := by
  show (if bs [58] = bs [58] then some ((ul (bs l)).length ≤ 1000000000, cutV 58 (ul (bs l))) else none) = _
  rw [if_pos rfl, ul_bs]
attribute [go_sem] con20_f con20_c
end Go.Proofs.YtdndgmcmmbjjkaaDoor.Tx
