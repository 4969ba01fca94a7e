/- Contracts of the library, laid by the shelf's plain mode. -/
import Derived.Shelf.Small.Wraps
import Derived.Shelf.Strconv.Atoi
import Derived.Shelf.Strconv.Itoa0
import Derived.Shelf.Strconv.Itoa1
import Derived.Shelf.LaysM
import Derived.Shelf.Strconv.Itoa2
import Derived.Shelf.Strconv.Itoa3
import Derived.Shelf.Strconv.AtoiErrFast
import Derived.Shelf.Strconv.ParseIntEmpty
import Derived.Shelf.Strconv.AtoiFail
import Derived.Shelf.Strconv.Clone
import Derived.Shelf.Strconv.SyntaxError
import Derived.Shelf.LaysC
import Derived.Shelf.Strconv.ToError
import Derived.Shelf.Strconv.AtoiErr
import Derived.Shelf.Strconv.ErrVar
import Derived.Shelf.Strconv.Lower
import Derived.Shelf.Strconv.ParseUint10
import Derived.Shelf.Strconv.ParseUint10Empty
import Derived.Shelf.Strconv.ParseUint10Any
import Derived.Shelf.Strconv.ParseInt10
import Derived.Shelf.Strconv.AtoiLong
import Derived.Shelf.Strconv.AtoiInnerAll
import Derived.Shelf.Strconv.RangeError
import Derived.Shelf.Strconv.ToErrorRange
import Derived.Shelf.Strconv.AtoiAll
import Derived.Shelf.Strconv.ErrVarAll
import Derived.Shelf.Strconv.ParseUintEmpty
import Derived.Shelf.Strconv.ParseUint10b64
import Derived.Shelf.Strconv.ParseUint10b32
import Derived.Shelf.Strconv.ParseUint10b16
import Derived.Shelf.Strconv.ParseUint10b8
import Derived.Shelf.Strconv.ParseUint10At
import Derived.Shelf.Strconv.ParseInt10At64
import Derived.Shelf.Strconv.ParseInt10At32
import Derived.Shelf.Strconv.ParseInt10At16
import Derived.Shelf.Strconv.ParseInt10At8
import Derived.Shelf.Strconv.ParseInt10All
import Derived.Shelf.Strings.Search1
import Derived.Shelf.Strings.Search2
import Derived.Shelf.Strings.Cut
import Derived.Shelf.Strings.Shaped
import Derived.Shelf.Strconv.AppendUint10
import Derived.Shelf.Strconv.AppendInt10
import Derived.Shelf.Strconv.AppendIntPublic10
import Derived.Shelf.Strings.Prefix
import Derived.Shelf.Strings.Fields
import Derived.Shelf.Strings.SplitShaped
import Derived.Shelf.Unicode.Latin
import Derived.Shelf.Unicode.Is16White
import Derived.Shelf.Unicode.IsSpaceAny
import Derived.Shelf.Unicode.Is16WhiteD
import Derived.Shelf.Unicode.IsSpaceAnyD
import Derived.Shelf.Strings.FieldsAny
import Derived.Shelf.Strings.FieldsFuncAny
import Derived.Shelf.Unicode.Is16Any
import Derived.Shelf.Unicode.Is32Any
import Derived.Shelf.Unicode.ExclAny
import Derived.Shelf.Strings.FieldsFuncGrows
import Derived.Shelf.Slices.Turned
import Derived.Ground.Names2Prog
import Derived.Shelf.Slices.Clone
import Derived.Ground.SlgnProg
import Derived.Shelf.SlicesE.Clone
import Derived.Test.YtdndgmcmmbjjkaaDoorProg
import Derived.Test.YtdndgmcmmbjjkaaDoorSA
import Derived.Tactics
import Derived.Tactics2
import Derived.OwnWalk
import Derived.OneCell
import Derived.ArgAppend
import Derived.LoopTactic
import Derived.WalkKit
import Derived.BigCall
import Derived.BigGuard
import Derived.CellFam
import Derived.Lib.AppendStr
import Derived.Lib.AppendIntMem
import Derived.Lib.ItoaMem
import Derived.Laws.Pointers
import Derived.Lib.SlBytesConst
import Derived.Laws.IdiomStrings
import Derived.Test.YtdndgmcmmbjjkaaDoorRows
import Derived.OpenShut
import Derived.Lib.LaidU8

set_option linter.all false

namespace Go.Proofs
open Go.Shelf
def Tryd.lays103_ren : Go.Shelf.Ren := ⟨fun | 103 => 18 | 210 => 29 | 206 => 42 | n => n, fun | 9 => 9 | 4 => 4 | 24 => 42 | 3 => 3 | n => n, fun | n => n⟩
theorem Tryd.lays103 : Go.Proofs.Lays.n103 Tryd.prog Tryd.lays103_ren := {
  mixed := by kernel_rfl
  f103 := Tryd.func18.trans (congrArg some (by kernel_rfl))
  f206 := Tryd.func42.trans (congrArg some (by kernel_rfl))
  f210 := Tryd.func29.trans (congrArg some (by kernel_rfl))
  t3 := Tryd.underlying3
  a3 := Tryd.isAgg3
  z3 := Tryd.sizeOf3
  v3 := Tryd.zeroValue3
  t4 := Tryd.underlying4
  a4 := Tryd.isAgg4
  z4 := Tryd.sizeOf4
  v4 := Tryd.zeroValue4
  t9 := Tryd.underlying9
  a9 := Tryd.isAgg9
  z9 := Tryd.sizeOf9
  v9 := Tryd.zeroValue9
  t24 := Tryd.underlying42
  a24 := Tryd.isAgg42
  z24 := Tryd.sizeOf42
  v24 := Tryd.zeroValue42 }
open Go.RowKit in
theorem Tryd.strings_CutPrefix (s p : ByteArray) (w : World) :
    Calls Tryd.prog 18 #[.string s, .string p] w fun e w' => e = .returned (.tuple #[.string ⟨(Lib.trimPrefix s.data.toList p.data.toList).toArray⟩, .bool (Lib.hasPrefix s.data.toList p.data.toList)]) ∧ w' = w := Any.strings_CutPrefix Tryd.lays103 s p w
def Tryd.lays104_ren : Go.Shelf.Ren := ⟨fun | 104 => 19 | 211 => 30 | 207 => 43 | n => n, fun | 9 => 9 | 4 => 4 | 24 => 42 | 3 => 3 | n => n, fun | n => n⟩
theorem Tryd.lays104 : Go.Proofs.Lays.n104 Tryd.prog Tryd.lays104_ren := {
  mixed := by kernel_rfl
  f104 := Tryd.func19.trans (congrArg some (by kernel_rfl))
  f207 := Tryd.func43.trans (congrArg some (by kernel_rfl))
  f211 := Tryd.func30.trans (congrArg some (by kernel_rfl))
  t3 := Tryd.underlying3
  a3 := Tryd.isAgg3
  z3 := Tryd.sizeOf3
  v3 := Tryd.zeroValue3
  t4 := Tryd.underlying4
  a4 := Tryd.isAgg4
  z4 := Tryd.sizeOf4
  v4 := Tryd.zeroValue4
  t9 := Tryd.underlying9
  a9 := Tryd.isAgg9
  z9 := Tryd.sizeOf9
  v9 := Tryd.zeroValue9
  t24 := Tryd.underlying42
  a24 := Tryd.isAgg42
  z24 := Tryd.sizeOf42
  v24 := Tryd.zeroValue42 }
open Go.RowKit in
theorem Tryd.strings_CutSuffix (s p : ByteArray) (w : World) (hs : s.size ≤ 9223372036854775807) :
    Calls Tryd.prog 19 #[.string s, .string p] w fun e w' => e = .returned (.tuple #[.string ⟨(Lib.trimSuffix s.data.toList p.data.toList).toArray⟩, .bool (Lib.hasSuffix s.data.toList p.data.toList)]) ∧ w' = w := Any.strings_CutSuffix Tryd.lays104 s p w hs
def Tryd.lays283_ren : Go.Shelf.Ren := ⟨fun | 283 => 51 | n => n, fun | 3 => 3 | 9 => 9 | 4 => 4 | n => n, fun | n => n⟩
theorem Tryd.lays283 : Go.Proofs.Lays.n283 Tryd.prog Tryd.lays283_ren := {
  mixed := by kernel_rfl
  f283 := Tryd.func51.trans (congrArg some (by kernel_rfl))
  t3 := Tryd.underlying3
  a3 := Tryd.isAgg3
  z3 := Tryd.sizeOf3
  v3 := Tryd.zeroValue3
  t4 := Tryd.underlying4
  a4 := Tryd.isAgg4
  z4 := Tryd.sizeOf4
  v4 := Tryd.zeroValue4
  t9 := Tryd.underlying9
  a9 := Tryd.isAgg9
  z9 := Tryd.sizeOf9
  v9 := Tryd.zeroValue9 }
open Go.Lib in
theorem Tryd.internal_strconv_small (i : Nat) (h : i < 100) (w : World) :
    Calls Tryd.prog 51 #[.int .i64 i] w fun e w' => e = .returned (.string ⟨(Lib.decDigits i).toArray⟩) ∧ w' = w := Any.internal_strconv_small Tryd.lays283 i h w
def Tryd.laysM284_ren : Go.Shelf.Ren := ⟨fun | 284 => 52 | 129 => 66 | 317 => 65 | 318 => 67 | n => n, fun | 53 => 65 | 3 => 3 | 212 => 96 | 0 => 0 | 4 => 4 | 46 => 82 | 5 => 5 | 9 => 9 | n => n, fun | 17 => 3 | n => n⟩
theorem Tryd.laysM284 : Go.Proofs.LaysM.n284 Tryd.prog Tryd.laysM284_ren := {
  mixed := by kernel_rfl
  f129 := Tryd.func66.trans (congrArg some (by kernel_rfl))
  f284 := Tryd.func52.trans (congrArg some (by kernel_rfl))
  f317 := Tryd.func65.trans (congrArg some (by kernel_rfl))
  f318 := Tryd.func67.trans (congrArg some (by kernel_rfl))
  t0 := Tryd.underlying0
  a0 := Tryd.isAgg0
  z0 := Tryd.sizeOf0
  v0 := Tryd.zeroValue0
  t3 := Tryd.underlying3
  a3 := Tryd.isAgg3
  z3 := Tryd.sizeOf3
  v3 := Tryd.zeroValue3
  t4 := Tryd.underlying4
  a4 := Tryd.isAgg4
  z4 := Tryd.sizeOf4
  v4 := Tryd.zeroValue4
  t5 := Tryd.underlying5
  a5 := Tryd.isAgg5
  z5 := Tryd.sizeOf5
  v5 := Tryd.zeroValue5
  t9 := Tryd.underlying9
  a9 := Tryd.isAgg9
  z9 := Tryd.sizeOf9
  v9 := Tryd.zeroValue9
  t46 := Tryd.underlying82
  a46 := Tryd.isAgg82
  z46 := Tryd.sizeOf82
  v46 := Tryd.zeroValue82
  t53 := Tryd.underlying65
  a53 := Tryd.isAgg65
  z53 := Tryd.sizeOf65
  v53 := Tryd.zeroValue65
  t212 := Tryd.underlying96
  a212 := Tryd.isAgg96
  z212 := Tryd.sizeOf96
  v212 := Tryd.zeroValue96
  g17 := by kernel_rfl
  i0 := by kernel_rfl
  i3 := by kernel_rfl
  i4 := by kernel_rfl
  i5 := by kernel_rfl
  i9 := by kernel_rfl
  i46 := by kernel_rfl
  i53 := by kernel_rfl
  i212 := by kernel_rfl
  m17 := by kernel_rfl }
open Go.Lib in
theorem Tryd.internal_strconv_numDigits (u : Nat) (h1 : 1 ≤ u) (h2 : u < 18446744073709551616) (w : World) (htab : Lib.TabIs Tryd.prog w "internal/strconv.uint64pow10" .u64 Lib.pow10Tab) :
    Calls Tryd.prog 52 #[.int .u64 u] w fun e w' => e = .returned (.int .i64 (Lib.nDigits u)) ∧ w' = w := Any.internal_strconv_numDigits Tryd.laysM284 u h1 h2 w htab
def Tryd.lays285_ren : Go.Shelf.Ren := ⟨fun | 285 => 53 | n => n, fun | 37 => 38 | 53 => 65 | 3 => 3 | 4 => 4 | 51 => 86 | 9 => 9 | 5 => 5 | 0 => 0 | n => n, fun | n => n⟩
theorem Tryd.lays285 : Go.Proofs.Lays.n285 Tryd.prog Tryd.lays285_ren := {
  mixed := by kernel_rfl
  f285 := Tryd.func53.trans (congrArg some (by kernel_rfl))
  t0 := Tryd.underlying0
  a0 := Tryd.isAgg0
  z0 := Tryd.sizeOf0
  v0 := Tryd.zeroValue0
  t3 := Tryd.underlying3
  a3 := Tryd.isAgg3
  z3 := Tryd.sizeOf3
  v3 := Tryd.zeroValue3
  t4 := Tryd.underlying4
  a4 := Tryd.isAgg4
  z4 := Tryd.sizeOf4
  v4 := Tryd.zeroValue4
  t5 := Tryd.underlying5
  a5 := Tryd.isAgg5
  z5 := Tryd.sizeOf5
  v5 := Tryd.zeroValue5
  t9 := Tryd.underlying9
  a9 := Tryd.isAgg9
  z9 := Tryd.sizeOf9
  v9 := Tryd.zeroValue9
  t37 := Tryd.underlying38
  a37 := Tryd.isAgg38
  z37 := Tryd.sizeOf38
  v37 := Tryd.zeroValue38
  t51 := Tryd.underlying86
  a51 := Tryd.isAgg86
  z51 := Tryd.sizeOf86
  v51 := Tryd.zeroValue86
  t53 := Tryd.underlying65
  a53 := Tryd.isAgg65
  z53 := Tryd.sizeOf65
  v53 := Tryd.zeroValue65 }
open Go.RowKit Go.Sort Go.Lib in
theorem Tryd.internal_strconv_formatBase10 (blk off cap : Nat) (u : Nat) (d : Array UInt8) (w : World) (hH : Holds (fun (b : UInt8) => Value.int .u8 (b.toNat : Int)) w blk off d) (hu : u < 10 ^ d.size) (hu64 : u < 18446744073709551616) (hsz : d.size < 4611686018427387904) :
    Calls Tryd.prog 53 #[.slice (some ⟨blk, off, none⟩) d.size cap, .int .u64 u] w fun e w' =>
      e = .returned (.tuple #[]) ∧ ∃ (n v' : Nat) (dk : Array UInt8), w' = (putRow (fun (b : UInt8) => Value.int .u8 (b.toNat : Int)) w blk off dk).drewN n ∧ FmtInv d.size u 0 v' dk := Any.internal_strconv_formatBase10 Tryd.lays285 blk off cap u d w hH hu hu64 hsz
def Tryd.laysC172_ren : Go.Shelf.Ren := ⟨fun | 172 => 33 | 244 => 47 | 245 => 48 | 247 => 60 | 279 => 61 | 280 => 62 | 281 => 63 | 282 => 64 | 287 => 74 | 316 => 75 | 171 => 77 | 205 => 76 | 321 => 80 | 322 => 81 | 243 => 82 | 246 => 83 | 283 => 51 | 284 => 52 | 285 => 53 | 286 => 54 | 129 => 66 | 317 => 65 | 318 => 67 | 319 => 68 | 320 => 69 | 337 => 78 | 338 => 79 | n => n, fun | 9 => 9 | 3 => 3 | 75 => 58 | 76 => 59 | 4 => 4 | 5 => 5 | 167 => 89 | 37 => 38 | 0 => 0 | 85 => 90 | 2 => 2 | 168 => 92 | 53 => 65 | 175 => 112 | 46 => 82 | 210 => 116 | 127 => 123 | 145 => 126 | 143 => 124 | 21 => 21 | 171 => 75 | 173 => 78 | 212 => 96 | 51 => 86 | 20 => 20 | 213 => 97 | 232 => 127 | 233 => 128 | 80 => 130 | n => n, fun | 15 => 4 | 16 => 5 | 17 => 3 | 18 => 6 | 19 => 7 | n => n⟩
theorem Tryd.laysC172 : Go.Proofs.LaysC.n172 Tryd.prog Tryd.laysC172_ren := {
  mixed := by kernel_rfl
  f129 := Tryd.func66.trans (congrArg some (by kernel_rfl))
  f171 := Tryd.func77.trans (congrArg some (by kernel_rfl))
  f172 := Tryd.func33.trans (congrArg some (by kernel_rfl))
  f205 := Tryd.func76.trans (congrArg some (by kernel_rfl))
  f243 := Tryd.func82.trans (congrArg some (by kernel_rfl))
  f244 := Tryd.func47.trans (congrArg some (by kernel_rfl))
  f245 := Tryd.func48.trans (congrArg some (by kernel_rfl))
  f246 := Tryd.func83.trans (congrArg some (by kernel_rfl))
  f247 := Tryd.func60.trans (congrArg some (by kernel_rfl))
  f279 := Tryd.func61.trans (congrArg some (by kernel_rfl))
  f280 := Tryd.func62.trans (congrArg some (by kernel_rfl))
  f281 := Tryd.func63.trans (congrArg some (by kernel_rfl))
  f282 := Tryd.func64.trans (congrArg some (by kernel_rfl))
  f283 := Tryd.func51.trans (congrArg some (by kernel_rfl))
  f284 := Tryd.func52.trans (congrArg some (by kernel_rfl))
  f285 := Tryd.func53.trans (congrArg some (by kernel_rfl))
  f286 := Tryd.func54.trans (congrArg some (by kernel_rfl))
  f287 := Tryd.func74.trans (congrArg some (by kernel_rfl))
  f316 := Tryd.func75.trans (congrArg some (by kernel_rfl))
  f317 := Tryd.func65.trans (congrArg some (by kernel_rfl))
  f318 := Tryd.func67.trans (congrArg some (by kernel_rfl))
  f319 := Tryd.func68.trans (congrArg some (by kernel_rfl))
  f320 := Tryd.func69.trans (congrArg some (by kernel_rfl))
  f321 := Tryd.func80.trans (congrArg some (by kernel_rfl))
  f322 := Tryd.func81.trans (congrArg some (by kernel_rfl))
  f337 := Tryd.func78.trans (congrArg some (by kernel_rfl))
  f338 := Tryd.func79.trans (congrArg some (by kernel_rfl))
  t0 := Tryd.underlying0
  a0 := Tryd.isAgg0
  z0 := Tryd.sizeOf0
  v0 := Tryd.zeroValue0
  t2 := Tryd.underlying2
  a2 := Tryd.isAgg2
  z2 := Tryd.sizeOf2
  v2 := Tryd.zeroValue2
  t3 := Tryd.underlying3
  a3 := Tryd.isAgg3
  z3 := Tryd.sizeOf3
  v3 := Tryd.zeroValue3
  t4 := Tryd.underlying4
  a4 := Tryd.isAgg4
  z4 := Tryd.sizeOf4
  v4 := Tryd.zeroValue4
  t5 := Tryd.underlying5
  a5 := Tryd.isAgg5
  z5 := Tryd.sizeOf5
  v5 := Tryd.zeroValue5
  t9 := Tryd.underlying9
  a9 := Tryd.isAgg9
  z9 := Tryd.sizeOf9
  v9 := Tryd.zeroValue9
  t20 := Tryd.underlying20
  a20 := Tryd.isAgg20
  z20 := Tryd.sizeOf20
  v20 := Tryd.zeroValue20
  t21 := Tryd.underlying21
  a21 := Tryd.isAgg21
  z21 := Tryd.sizeOf21
  v21 := Tryd.zeroValue21
  t37 := Tryd.underlying38
  a37 := Tryd.isAgg38
  z37 := Tryd.sizeOf38
  v37 := Tryd.zeroValue38
  t46 := Tryd.underlying82
  a46 := Tryd.isAgg82
  z46 := Tryd.sizeOf82
  v46 := Tryd.zeroValue82
  t51 := Tryd.underlying86
  a51 := Tryd.isAgg86
  z51 := Tryd.sizeOf86
  v51 := Tryd.zeroValue86
  t53 := Tryd.underlying65
  a53 := Tryd.isAgg65
  z53 := Tryd.sizeOf65
  v53 := Tryd.zeroValue65
  t75 := Tryd.underlying58
  a75 := Tryd.isAgg58
  z75 := Tryd.sizeOf58
  v75 := Tryd.zeroValue58
  t76 := Tryd.underlying59
  a76 := Tryd.isAgg59
  z76 := Tryd.sizeOf59
  v76 := Tryd.zeroValue59
  t85 := Tryd.underlying90
  a85 := Tryd.isAgg90
  z85 := Tryd.sizeOf90
  v85 := Tryd.zeroValue90
  t127 := Tryd.underlying123
  a127 := Tryd.isAgg123
  z127 := Tryd.sizeOf123
  v127 := Tryd.zeroValue123
  t143 := Tryd.underlying124
  a143 := Tryd.isAgg124
  z143 := Tryd.sizeOf124
  v143 := Tryd.zeroValue124
  t145 := Tryd.underlying126
  a145 := Tryd.isAgg126
  z145 := Tryd.sizeOf126
  v145 := Tryd.zeroValue126
  t167 := Tryd.underlying89
  a167 := Tryd.isAgg89
  z167 := Tryd.sizeOf89
  v167 := Tryd.zeroValue89
  t168 := Tryd.underlying92
  a168 := Tryd.isAgg92
  z168 := Tryd.sizeOf92
  v168 := Tryd.zeroValue92
  t171 := Tryd.underlying75
  a171 := Tryd.isAgg75
  z171 := Tryd.sizeOf75
  v171 := Tryd.zeroValue75
  t173 := Tryd.underlying78
  a173 := Tryd.isAgg78
  z173 := Tryd.sizeOf78
  v173 := Tryd.zeroValue78
  t175 := Tryd.underlying112
  a175 := Tryd.isAgg112
  z175 := Tryd.sizeOf112
  v175 := Tryd.zeroValue112
  t210 := Tryd.underlying116
  a210 := Tryd.isAgg116
  z210 := Tryd.sizeOf116
  v210 := Tryd.zeroValue116
  t212 := Tryd.underlying96
  a212 := Tryd.isAgg96
  z212 := Tryd.sizeOf96
  v212 := Tryd.zeroValue96
  t213 := Tryd.underlying97
  a213 := Tryd.isAgg97
  z213 := Tryd.sizeOf97
  t232 := Tryd.underlying127
  a232 := Tryd.isAgg127
  z232 := Tryd.sizeOf127
  v232 := Tryd.zeroValue127
  t233 := Tryd.underlying128
  a233 := Tryd.isAgg128
  z233 := Tryd.sizeOf128
  v233 := Tryd.zeroValue128
  g15 := by kernel_rfl
  g16 := by kernel_rfl
  g17 := by kernel_rfl
  g18 := by kernel_rfl
  g19 := by kernel_rfl
  t80 := Tryd.underlying130
  a80 := Tryd.isAgg130
  z80 := Tryd.sizeOf130
  v80 := Tryd.zeroValue130
  i0 := by kernel_rfl
  i2 := by kernel_rfl
  i3 := by kernel_rfl
  i4 := by kernel_rfl
  i5 := by kernel_rfl
  i9 := by kernel_rfl
  i20 := by kernel_rfl
  i21 := by kernel_rfl
  i37 := by kernel_rfl
  i46 := by kernel_rfl
  i51 := by kernel_rfl
  i53 := by kernel_rfl
  i75 := by kernel_rfl
  i76 := by kernel_rfl
  i80 := by kernel_rfl
  i85 := by kernel_rfl
  i127 := by kernel_rfl
  i143 := by kernel_rfl
  i145 := by kernel_rfl
  i167 := by kernel_rfl
  i168 := by kernel_rfl
  i171 := by kernel_rfl
  i173 := by kernel_rfl
  i175 := by kernel_rfl
  i210 := by kernel_rfl
  i212 := by kernel_rfl
  i232 := by kernel_rfl
  i233 := by kernel_rfl
  m15 := by kernel_rfl
  m16 := by kernel_rfl
  m17 := by kernel_rfl
  m18 := by kernel_rfl
  m19 := by kernel_rfl
  c0 := by kernel_rfl
  c2 := by kernel_rfl
  c3 := by kernel_rfl
  c4 := by kernel_rfl
  c5 := by kernel_rfl
  c9 := by kernel_rfl
  c20 := by kernel_rfl
  c21 := by kernel_rfl
  c37 := by kernel_rfl
  c46 := by kernel_rfl
  c51 := by kernel_rfl
  c53 := by kernel_rfl
  c75 := by kernel_rfl
  c76 := by kernel_rfl
  c80 := by kernel_rfl
  c85 := by kernel_rfl
  c127 := by kernel_rfl
  c143 := by kernel_rfl
  c145 := by kernel_rfl
  c167 := by kernel_rfl
  c168 := by kernel_rfl
  c171 := by kernel_rfl
  c173 := by kernel_rfl
  c175 := by kernel_rfl
  c210 := by kernel_rfl
  c212 := by kernel_rfl
  c213 := by kernel_rfl
  c232 := by kernel_rfl
  c233 := by kernel_rfl }
open Go.RowKit in
theorem Tryd.strconv_Atoi_ok (s : ByteArray) (hmax : s.size ≤ 9223372036854775806) (v : Int) (h : Lib.atoiAll s.data.toList = .ok v) (w : World) :
    Calls Tryd.prog 33 #[.string s] w fun e w' => e = .returned (.tuple #[.int .i64 v, .nilIface]) ∧ (w' = w ∨ ∃ t, w' = Lib.bytesWorld w 5 t) := Any.strconv_Atoi_ok Tryd.laysC172 s hmax v h w
def Tryd.laysM176_ren : Go.Shelf.Ren := ⟨fun | 176 => 15 | 249 => 28 | 288 => 41 | 283 => 51 | 284 => 52 | 285 => 53 | 286 => 54 | 129 => 66 | 317 => 65 | 318 => 67 | 319 => 68 | 320 => 69 | 337 => 78 | 338 => 79 | n => n, fun | 37 => 38 | 2 => 2 | 3 => 3 | 53 => 65 | 4 => 4 | 9 => 9 | 171 => 75 | 0 => 0 | 173 => 78 | 212 => 96 | 51 => 86 | 5 => 5 | 20 => 20 | 213 => 97 | 46 => 82 | 232 => 127 | 233 => 128 | n => n, fun | 17 => 3 | 18 => 6 | 19 => 7 | n => n⟩
theorem Tryd.laysM176 : Go.Proofs.LaysM.n176 Tryd.prog Tryd.laysM176_ren := {
  mixed := by kernel_rfl
  f129 := Tryd.func66.trans (congrArg some (by kernel_rfl))
  f176 := Tryd.func15.trans (congrArg some (by kernel_rfl))
  f249 := Tryd.func28.trans (congrArg some (by kernel_rfl))
  f283 := Tryd.func51.trans (congrArg some (by kernel_rfl))
  f284 := Tryd.func52.trans (congrArg some (by kernel_rfl))
  f285 := Tryd.func53.trans (congrArg some (by kernel_rfl))
  f286 := Tryd.func54.trans (congrArg some (by kernel_rfl))
  f288 := Tryd.func41.trans (congrArg some (by kernel_rfl))
  f317 := Tryd.func65.trans (congrArg some (by kernel_rfl))
  f318 := Tryd.func67.trans (congrArg some (by kernel_rfl))
  f319 := Tryd.func68.trans (congrArg some (by kernel_rfl))
  f320 := Tryd.func69.trans (congrArg some (by kernel_rfl))
  f337 := Tryd.func78.trans (congrArg some (by kernel_rfl))
  f338 := Tryd.func79.trans (congrArg some (by kernel_rfl))
  t0 := Tryd.underlying0
  a0 := Tryd.isAgg0
  z0 := Tryd.sizeOf0
  v0 := Tryd.zeroValue0
  t2 := Tryd.underlying2
  a2 := Tryd.isAgg2
  z2 := Tryd.sizeOf2
  v2 := Tryd.zeroValue2
  t3 := Tryd.underlying3
  a3 := Tryd.isAgg3
  z3 := Tryd.sizeOf3
  v3 := Tryd.zeroValue3
  t4 := Tryd.underlying4
  a4 := Tryd.isAgg4
  z4 := Tryd.sizeOf4
  v4 := Tryd.zeroValue4
  t5 := Tryd.underlying5
  a5 := Tryd.isAgg5
  z5 := Tryd.sizeOf5
  v5 := Tryd.zeroValue5
  t9 := Tryd.underlying9
  a9 := Tryd.isAgg9
  z9 := Tryd.sizeOf9
  v9 := Tryd.zeroValue9
  t20 := Tryd.underlying20
  a20 := Tryd.isAgg20
  z20 := Tryd.sizeOf20
  v20 := Tryd.zeroValue20
  t37 := Tryd.underlying38
  a37 := Tryd.isAgg38
  z37 := Tryd.sizeOf38
  v37 := Tryd.zeroValue38
  t46 := Tryd.underlying82
  a46 := Tryd.isAgg82
  z46 := Tryd.sizeOf82
  v46 := Tryd.zeroValue82
  t51 := Tryd.underlying86
  a51 := Tryd.isAgg86
  z51 := Tryd.sizeOf86
  v51 := Tryd.zeroValue86
  t53 := Tryd.underlying65
  a53 := Tryd.isAgg65
  z53 := Tryd.sizeOf65
  v53 := Tryd.zeroValue65
  t171 := Tryd.underlying75
  a171 := Tryd.isAgg75
  z171 := Tryd.sizeOf75
  v171 := Tryd.zeroValue75
  t173 := Tryd.underlying78
  a173 := Tryd.isAgg78
  z173 := Tryd.sizeOf78
  v173 := Tryd.zeroValue78
  t212 := Tryd.underlying96
  a212 := Tryd.isAgg96
  z212 := Tryd.sizeOf96
  v212 := Tryd.zeroValue96
  t213 := Tryd.underlying97
  a213 := Tryd.isAgg97
  z213 := Tryd.sizeOf97
  t232 := Tryd.underlying127
  a232 := Tryd.isAgg127
  z232 := Tryd.sizeOf127
  v232 := Tryd.zeroValue127
  t233 := Tryd.underlying128
  a233 := Tryd.isAgg128
  z233 := Tryd.sizeOf128
  v233 := Tryd.zeroValue128
  g17 := by kernel_rfl
  g18 := by kernel_rfl
  g19 := by kernel_rfl
  i0 := by kernel_rfl
  i2 := by kernel_rfl
  i3 := by kernel_rfl
  i4 := by kernel_rfl
  i5 := by kernel_rfl
  i9 := by kernel_rfl
  i20 := by kernel_rfl
  i37 := by kernel_rfl
  i46 := by kernel_rfl
  i51 := by kernel_rfl
  i53 := by kernel_rfl
  i171 := by kernel_rfl
  i173 := by kernel_rfl
  i212 := by kernel_rfl
  i232 := by kernel_rfl
  i233 := by kernel_rfl
  m17 := by kernel_rfl
  m18 := by kernel_rfl
  m19 := by kernel_rfl }
open Go.RowKit Go.Sort Go.Lib in
theorem Tryd.strconv_AppendInt_10 (B n : Nat) (i : Int) (h0 : -9223372036854775808 ≤ i) (h1 : i ≤ 9223372036854775807) (sv : Value) (xs : List Value) (w : World) (hown : w.ownsRow B 5 1 sv n xs) (hBw : B ≤ w.heap.size) (hlim : n + 21 ≤ 140737488355328) (htab : Lib.TabBelow Tryd.prog B w "internal/strconv.uint64pow10" .u64 Lib.pow10Tab) :
    Calls Tryd.prog 15 #[sv, .int .i64 i, .int .i64 10] w fun e w' => ∃ v', e = .returned v' ∧ w'.ownsRow B 5 1 v' (n + (Lib.itoa i).length) (xs ++ Lib.byteCells (Lib.itoa i)) ∧ Below B w w' ∧ Lib.OthersKept 5 none w w' := Any.strconv_AppendInt_10 Tryd.laysM176 B n i h0 h1 sv xs w hown hBw hlim htab
def Tryd.lays157_ren : Go.Shelf.Ren := ⟨fun | 157 => 32 | 229 => 45 | 199 => 46 | 261 => 59 | 311 => 72 | 312 => 73 | n => n, fun | 9 => 9 | 31 => 55 | 3 => 3 | 5 => 5 | 4 => 4 | 119 => 69 | 0 => 0 | 40 => 71 | 152 => 83 | 21 => 21 | 154 => 85 | 51 => 86 | 141 => 88 | 196 => 104 | 193 => 101 | 198 => 107 | 49 => 105 | 194 => 102 | 201 => 110 | 226 => 119 | 46 => 82 | 227 => 120 | n => n, fun | 0 => 0 | 6 => 2 | n => n⟩
theorem Tryd.lays157 : Go.Proofs.Lays.n157 Tryd.prog Tryd.lays157_ren := {
  mixed := by kernel_rfl
  f157 := Tryd.func32.trans (congrArg some (by kernel_rfl))
  f199 := Tryd.func46.trans (congrArg some (by kernel_rfl))
  f229 := Tryd.func45.trans (congrArg some (by kernel_rfl))
  f261 := Tryd.func59.trans (congrArg some (by kernel_rfl))
  f311 := Tryd.func72.trans (congrArg some (by kernel_rfl))
  f312 := Tryd.func73.trans (congrArg some (by kernel_rfl))
  t0 := Tryd.underlying0
  a0 := Tryd.isAgg0
  z0 := Tryd.sizeOf0
  v0 := Tryd.zeroValue0
  t3 := Tryd.underlying3
  a3 := Tryd.isAgg3
  z3 := Tryd.sizeOf3
  v3 := Tryd.zeroValue3
  t4 := Tryd.underlying4
  a4 := Tryd.isAgg4
  z4 := Tryd.sizeOf4
  v4 := Tryd.zeroValue4
  t5 := Tryd.underlying5
  a5 := Tryd.isAgg5
  z5 := Tryd.sizeOf5
  v5 := Tryd.zeroValue5
  t9 := Tryd.underlying9
  a9 := Tryd.isAgg9
  z9 := Tryd.sizeOf9
  v9 := Tryd.zeroValue9
  t21 := Tryd.underlying21
  a21 := Tryd.isAgg21
  z21 := Tryd.sizeOf21
  v21 := Tryd.zeroValue21
  t31 := Tryd.underlying55
  a31 := Tryd.isAgg55
  z31 := Tryd.sizeOf55
  v31 := Tryd.zeroValue55
  t40 := Tryd.underlying71
  a40 := Tryd.isAgg71
  z40 := Tryd.sizeOf71
  v40 := Tryd.zeroValue71
  t46 := Tryd.underlying82
  a46 := Tryd.isAgg82
  z46 := Tryd.sizeOf82
  v46 := Tryd.zeroValue82
  t49 := Tryd.underlying105
  a49 := Tryd.isAgg105
  z49 := Tryd.sizeOf105
  v49 := Tryd.zeroValue105
  t51 := Tryd.underlying86
  a51 := Tryd.isAgg86
  z51 := Tryd.sizeOf86
  v51 := Tryd.zeroValue86
  t119 := Tryd.underlying69
  a119 := Tryd.isAgg69
  z119 := Tryd.sizeOf69
  t141 := Tryd.underlying88
  a141 := Tryd.isAgg88
  z141 := Tryd.sizeOf88
  v141 := Tryd.zeroValue88
  t152 := Tryd.underlying83
  a152 := Tryd.isAgg83
  z152 := Tryd.sizeOf83
  v152 := Tryd.zeroValue83
  t154 := Tryd.underlying85
  a154 := Tryd.isAgg85
  z154 := Tryd.sizeOf85
  v154 := Tryd.zeroValue85
  t193 := Tryd.underlying101
  a193 := Tryd.isAgg101
  z193 := Tryd.sizeOf101
  v193 := Tryd.zeroValue101
  t194 := Tryd.underlying102
  a194 := Tryd.isAgg102
  z194 := Tryd.sizeOf102
  v194 := Tryd.zeroValue102
  t196 := Tryd.underlying104
  a196 := Tryd.isAgg104
  z196 := Tryd.sizeOf104
  v196 := Tryd.zeroValue104
  t198 := Tryd.underlying107
  a198 := Tryd.isAgg107
  z198 := Tryd.sizeOf107
  v198 := Tryd.zeroValue107
  t201 := Tryd.underlying110
  a201 := Tryd.isAgg110
  z201 := Tryd.sizeOf110
  v201 := Tryd.zeroValue110
  t226 := Tryd.underlying119
  a226 := Tryd.isAgg119
  z226 := Tryd.sizeOf119
  v226 := Tryd.zeroValue119
  t227 := Tryd.underlying120
  a227 := Tryd.isAgg120
  z227 := Tryd.sizeOf120
  v227 := Tryd.zeroValue120
  g0 := by kernel_rfl
  g6 := by kernel_rfl }
open Go.RowKit Go.Lib in
theorem Tryd.strings_Fields_any (s : ByteArray) (w : World) (hs : s.size < 4294967281) (htab : Lib.TabIs Tryd.prog w "strings.asciiSpace" .u8 Lib.asciiSpaceTab) (hW : Lib.WhiteTab 2 w) :
    Calls Tryd.prog 32 #[.string s] w fun e w' => ∃ A, e = .returned (.slice (some ⟨A, 0, none⟩) (Lib.fieldsD s.data.toList).length (Lib.fieldsD s.data.toList).length) ∧ w.heap.size ≤ A ∧
      w'.ownsRow w.heap.size 9 1 (.slice (some ⟨A, 0, none⟩) (Lib.fieldsD s.data.toList).length (Lib.fieldsD s.data.toList).length) (Lib.fieldsD s.data.toList).length ((Lib.fieldsD s.data.toList).map fun x => Value.string ⟨x.toArray⟩) ∧ Below w.heap.size w w' := Any.strings_Fields_any Tryd.lays157 (by kernel_rfl) (by kernel_rfl) (by kernel_rfl) s w hs htab hW
end Go.Proofs

/- The library's functions on texts, by the kit's shelf. -/
namespace Go.Proofs.YtdndgmcmmbjjkaaDoor.Tx
open Go.Proofs.YtdndgmcmmbjjkaaDoor
open Go Go.Fw Go.RowKit
set_option maxRecDepth 20000
theorem rc_lit {C : Nat → Nat → Option Value} {a v : Value} (h : RC C (.lit a) v) : v = a := by
  generalize hz : AV.lit a = z at h
  cases h <;> first | (cases hz; rfl) | cases hz
theorem lit1 {C : Nat → Nat → Option Value} {a : Value} {vs : List Value} (h : RL C [.lit a] vs) : vs = [a] := by
  obtain ⟨h1, h2⟩ := h
  match vs, h1 with
  | [x], _ => have h := h2 0 (by simp); simp only [List.getD_cons_zero] at h; cases h; rfl
theorem tabs_in {C : Nat → Nat → Option Value} {w : World} (h : inW C w) : Tabs w := h.2
theorem tup2_rc {C : Nat → Nat → Option Value} (a b : Value) : RC C (.tup [.lit a, .lit b]) (.tuple #[a, b]) := RC.tup [.lit a, .lit b] [a, b] rfl fun i hi => by
  match i, hi with
  | 0, _ => exact .lit _
  | 1, _ => exact .lit _
theorem pc_tup2 {f : FuncId} {args : List AV} {a b : Value} (h : ∀ (C : Nat → Nat → Option Value) (w : World) (vs : List Value), RL C args vs → inW C w → Calls Tryd.prog f vs.toArray w fun e w' => e = .returned (.tuple #[a, b]) ∧ RowKit.Below w.heap.size w w') : PC Tryd.prog f args (.tup [.lit a, .lit b]) := by
  intro C w vs hl hin
  refine (h C w vs hl hin).mono ?_
  rintro e w' ⟨rfl, hb⟩
  have hm := More.of_below hb
  exact ⟨_, C, rfl, CLe.refl _, tup2_rc a b, ⟨fun k o u hu => hm.cell (hin.1 k o u hu), hin.2.up hm.block⟩, hm, fun _ _ _ => rfl⟩
theorem below_refl (w : World) : RowKit.Below w.heap.size w w := More.below (More.refl w)
theorem below_trans2 {a b c : World} (h : Below a.heap.size a b) (k : Below b.heap.size b c) : Below a.heap.size a c := ((More.of_below h).trans (More.of_below k)).below
theorem tabs_up {w w' : World} (h : Tabs w) (hb : RowKit.Below w.heap.size w w') : Tabs w' := TB.up w w' hb.block h
theorem txs_at {xs : List (List UInt8)} {j : Nat} (h : j < xs.length) : (txs xs).getD j .top = .lit (.string (bs (xs.getD j []))) := by
  simp [txs, List.getD_eq_getElem?_getD, List.getElem?_map, List.getElem?_eq_getElem h]
/-- A function that returns a new list of texts. -/
theorem pc_row {f : FuncId} {args : List AV} {xs : List (List UInt8)} (h : ∀ (C : Nat → Nat → Option Value) (w : World) (vs : List Value), RL C args vs → inW C w → Calls Tryd.prog f vs.toArray w fun e w' => ∃ A, e = .returned (.slice (some ⟨A, 0, none⟩) xs.length xs.length) ∧ w.heap.size ≤ A ∧
      w'.ownsRow w.heap.size 9 1 (.slice (some ⟨A, 0, none⟩) xs.length xs.length) xs.length (xs.map fun x => Value.string ⟨x.toArray⟩) ∧ Below w.heap.size w w') : PC Tryd.prog f args (.sl false 1 (txs xs)) := by
  intro C w vs hl hin
  refine (h C w vs hl hin).mono ?_
  rintro e w' ⟨A, rfl, hA, hown, hb⟩
  have hm := More.of_below hb
  obtain ⟨hlen, ⟨hn, _⟩ | ⟨g, cap, cur, hv, _, hg, hle, hmax, hsz, htk⟩⟩ := hown
  · cases hn
  cases hv
  rw [Nat.mul_one] at hsz htk
  have hat : ∀ o, o < xs.length → cur[o]? = some (.string (bs (xs.getD o []))) := fun o ho => by
    have h1 : (cur.toList.take xs.length)[o]? = (xs.map fun x => Value.string ⟨x.toArray⟩)[o]? := by rw [htk]
    rw [List.getElem?_take_of_lt ho, List.getElem?_map, List.getElem?_eq_getElem ho] at h1
    rw [← Array.getElem?_toList, h1, List.getD_eq_getElem?_getD, List.getElem?_eq_getElem ho]; rfl
  have old : ∀ k o u, C k o = some u → k ≠ A := fun k o u hu => by
    have h1 := World.block_lt_of_cell? w _ (hin.1 k o u hu)
    intro e
    rw [e] at h1
    exact absurd h1 (Nat.not_lt.2 hA)
  refine ⟨_, fun k o => if k = A ∧ o < xs.length then some (.string (bs (xs.getD o []))) else C k o, rfl, ?_, ?_, ⟨?_, hin.2.up hm.block⟩, hm, ?_⟩
  · intro k o u hu
    simp only [if_neg (fun e : k = A ∧ o < xs.length => old k o u hu e.1)]; exact hu
  · have hfl : flat (txs xs) = txs xs := flat_lits (fun w => .string (bs w)) xs
    have hx := RC.sl (C := fun k o => if k = A ∧ o < xs.length then some (.string (bs (xs.getD o []))) else C k o) false 1 (txs xs) A 0 xs.length (fun j => .string (bs (xs.getD j []))) (by rw [txs_length]; exact Nat.le_refl _) hmax (by simp) (by
      intro x hx
      simp only [txs, List.mem_map] at hx
      obtain ⟨y, _, rfl⟩ := hx
      rfl) (by
      intro j hj
      rw [hfl, txs_length] at hj
      rw [Nat.zero_add, if_pos ⟨rfl, hj⟩]) (fun _ _ => rfl) (by
      intro j hj
      rw [hfl, txs_length] at hj
      rw [hfl, txs_at hj]
      exact .lit _)
    rw [txs_length] at hx
    exact hx
  · intro k o u hu
    simp only at hu
    split at hu
    · rename_i h1
      obtain ⟨rfl, h2⟩ := h1
      cases hu
      simp only [World.cell?, hg]
      exact hat o h2
    · exact hm.cell (hin.1 k o u hu)
  · intro k hk j
    simp only [if_neg (fun e : k = A ∧ j < xs.length => by rw [e.1] at hk; exact absurd hk (Nat.not_lt.2 hA))]
theorem fields_pc {l : List UInt8} (hl : l.length ≤ 1000000) : PC Tryd.prog 32 [.lit (.string (bs l))] (.sl false 1 (txs (Lib.fieldsD l))) := by
  refine pc_row fun C w vs hv hin => ?_
  rw [lit1 hv]
  have h := Tryd.strings_Fields_any (bs l) w (by rw [bs_size]; omega) (tabs_in hin).asc (tabs_in hin).whi
  rw [data_bs] at h
  exact h
theorem cutp_pc {l m : List UInt8} : PC Tryd.prog 18 [.lit (.string (bs l)), .lit (.string (bs m))] (.tup [.lit (.string (bs (Lib.trimPrefix l m))), .lit (.bool (Lib.hasPrefix l m))]) := by
  refine pc_tup2 fun C w vs hv hin => ?_
  rw [args2 hv]
  have h := Tryd.strings_CutPrefix (bs l) (bs m) w
  rw [data_bs, data_bs] at h
  refine h.mono ?_
  rintro e w' ⟨rfl, rfl⟩
  exact ⟨rfl, below_refl _⟩
theorem cuts_pc {l m : List UInt8} (hl : l.length ≤ 1000000000) : PC Tryd.prog 19 [.lit (.string (bs l)), .lit (.string (bs m))] (.tup [.lit (.string (bs (Lib.trimSuffix l m))), .lit (.bool (Lib.hasSuffix l m))]) := by
  refine pc_tup2 fun C w vs hv hin => ?_
  rw [args2 hv]
  have h := Tryd.strings_CutSuffix (bs l) (bs m) w (by rw [bs_size]; omega)
  rw [data_bs, data_bs] at h
  refine h.mono ?_
  rintro e w' ⟨rfl, rfl⟩
  exact ⟨rfl, below_refl _⟩
noncomputable def con32 : PCon Tryd.prog where
  f := 32
  c := fun
    | [.lit (.string s)] => some ((ul s).length ≤ 1000000, .sl false 1 (txs (Lib.fieldsD (ul s))))
    | _ => none
  ok := by
    intro args p r hc hp
    split at hc
    · rename_i s
      obtain ⟨l, rfl⟩ := bs_ex s
      cases hc
      rw [ul_bs] at *
      exact fields_pc hp
    · cases hc
  fk := fk32
theorem con32_f : con32.f = 32 := rfl
theorem con32_c {l : List UInt8} : con32.c [.lit (.string (bs l))] = some (l.length ≤ 1000000, .sl false 1 (txs (Lib.fieldsD l))) := by
  show some ((ul (bs l)).length ≤ 1000000, AV.sl false 1 (txs (Lib.fieldsD (ul (bs l))))) = _
  rw [ul_bs]
noncomputable def con18 : PCon Tryd.prog where
  f := 18
  c := fun
    | [.lit (.string s), .lit (.string p)] => some (True, .tup [.lit (.string (bs (Lib.trimPrefix (ul s) (ul p)))), .lit (.bool (Lib.hasPrefix (ul s) (ul p)))])
    | _ => none
  ok := by
    intro args p r hc hp
    split at hc
    · rename_i s q
      obtain ⟨l, rfl⟩ := bs_ex s
      obtain ⟨m, rfl⟩ := bs_ex q
      cases hc
      rw [ul_bs, ul_bs]
      exact cutp_pc
    · cases hc
  fk := fk18
theorem con18_f : con18.f = 18 := rfl
theorem con18_c {l m : List UInt8} : con18.c [.lit (.string (bs l)), .lit (.string (bs m))] = some (True, .tup [.lit (.string (bs (Lib.trimPrefix l m))), .lit (.bool (Lib.hasPrefix l m))]) := by
  show some (True, AV.tup [.lit (.string (bs (Lib.trimPrefix (ul (bs l)) (ul (bs m))))), .lit (.bool (Lib.hasPrefix (ul (bs l)) (ul (bs m))))]) = _
  rw [ul_bs, ul_bs]
noncomputable def con19 : PCon Tryd.prog where
  f := 19
  c := fun
    | [.lit (.string s), .lit (.string p)] => some ((ul s).length ≤ 1000000000, .tup [.lit (.string (bs (Lib.trimSuffix (ul s) (ul p)))), .lit (.bool (Lib.hasSuffix (ul s) (ul p)))])
    | _ => none
  ok := by
    intro args p r hc hp
    split at hc
    · rename_i s q
      obtain ⟨l, rfl⟩ := bs_ex s
      obtain ⟨m, rfl⟩ := bs_ex q
      cases hc
      rw [ul_bs, ul_bs] at *
      exact cuts_pc hp
    · cases hc
  fk := fk19
theorem con19_f : con19.f = 19 := rfl
theorem con19_c {l m : List UInt8} : con19.c [.lit (.string (bs l)), .lit (.string (bs m))] = some (l.length ≤ 1000000000, .tup [.lit (.string (bs (Lib.trimSuffix l m))), .lit (.bool (Lib.hasSuffix l m))]) := by
  show some ((ul (bs l)).length ≤ 1000000000, AV.tup [.lit (.string (bs (Lib.trimSuffix (ul (bs l)) (ul (bs m))))), .lit (.bool (Lib.hasSuffix (ul (bs l)) (ul (bs m))))]) = _
  rw [ul_bs, ul_bs]
attribute [go_sem] con32_f con32_c con18_f con18_c con19_f con19_c
/-! ### Atoi -/
theorem r_lit {G : Gh} {a v : Value} (h : R G (.lit a) v) : v = a := by
  generalize hz : AV.lit a = z at h
  cases h with
  | clo x v h => subst hz; exact rc_lit h
  | _ => cases hz
theorem rlg_lit1 {G : Gh} {a : Value} {vs : List Value} (h : RLG G [.lit a] vs) : vs = [a] := by
  obtain ⟨h1, h2⟩ := h
  match vs, h1 with
  | [x], _ => have h := h2 0 (by simp); simp only [List.getD_cons_zero] at h; rw [r_lit h]
theorem atoi_all {l : List UInt8} (hl : l.length ≤ 1000000) (w : World) (hT : Tabs w) :
    Calls Tryd.prog 33 #[.string (bs l)] w fun e w' => (∃ n t v, e = .returned (.tuple #[.int .i64 n, v]) ∧ ((Lib.atoiAll l = .ok n ∧ v = .nilIface) ∨ ((∀ m, Lib.atoiAll l ≠ .ok m) ∧ v = .iface 92 t))) ∧ RowKit.Below w.heap.size w w' := by
  have hs : (bs l).size ≤ 281474976710656 := by rw [bs_size]; omega
  have hd : (bs l).data.toList = l := data_bs l
  cases hq : Lib.atoiAll l with
  | ok n =>
    refine (Tryd.strconv_Atoi_ok (bs l) (by rw [bs_size]; omega) n (by rw [hd]; exact hq) w).mono ?_
    rintro e w' ⟨rfl, rfl | ⟨t, rfl⟩⟩
    · exact ⟨⟨n, undef, _, rfl, .inl ⟨rfl, rfl⟩⟩, below_refl _⟩
    · exact ⟨⟨n, undef, _, rfl, .inl ⟨rfl, rfl⟩⟩, rfl, rfl, rfl, by rw [Lib.bytesWorld_size]; omega, fun j hj => Lib.bytesWorld_at_old w 5 t j hj⟩
  | _ =>
    first
      | (obtain ⟨t, p, hv⟩ := hT.syn
         refine (Any.strconv_Atoi_syntax_var Tryd.laysC172 (bs l) hs (by rw [hd]; exact hq) t p w hv).mono ?_
         rintro e w' ⟨N, rfl, _, _, hb⟩
         exact ⟨⟨_, _, _, rfl, .inr ⟨(by intro m hm; cases hm), rfl⟩⟩, hb⟩)
      | (obtain ⟨t, p, hv⟩ := hT.rng
         refine (Any.strconv_Atoi_range_var Tryd.laysC172 (bs l) hs (by rw [hd]; exact hq) t p w hv).mono ?_
         rintro e w' ⟨N, rfl, _, _, hb⟩
         exact ⟨⟨_, _, _, rfl, .inr ⟨(by intro m hm; cases hm), rfl⟩⟩, hb⟩)
/-- The number that a text spells. -/
def num? (t : List UInt8) : Option Int := match Lib.atoiAll t with
  | .ok n => some n
  | _ => none
def atoiX (l : List UInt8) (σ : List AObj) (k : AV → List AObj → Prop) : Prop := match num? l with
  | some n => k (.tup [.lit (.int .i64 n), .lit .nilIface]) σ
  | none => ∀ n v, k (.tup [.lit (.int .i64 n), .lit (.iface 92 v)]) σ
theorem num_ok {l : List UInt8} {n : Int} (h : Lib.atoiAll l = .ok n) : num? l = some n := by unfold num?; rw [h]
theorem num_no {l : List UInt8} (h : ∀ n, Lib.atoiAll l ≠ .ok n) : num? l = none := by
  unfold num?
  split
  · rename_i n hn; exact absurd hn (h n)
  · rfl
noncomputable def ecn33 : ECon Tryd.prog where
  f := 33
  c := fun args σ k => match args with
    | [.lit (.string s)] => (ul s).length ≤ 1000000 ∧ atoiX (ul s) σ k
    | _ => False
  ok := by
    intro args σ k hh
    split at hh
    · rename_i s
      obtain ⟨l, rfl⟩ := bs_ex s
      rw [ul_bs] at hh
      obtain ⟨hl, hk⟩ := hh
      intro cx G w vs hr hl2
      rw [rlg_lit1 hl2]
      refine (atoi_all hl w (tabs_in hr.inW)).mono ?_
      rintro e w' ⟨⟨n, t, v, rfl, h⟩, hb⟩
      unfold atoiX at hk
      rcases h with ⟨h1, rfl⟩ | ⟨h1, rfl⟩
      · rw [num_ok h1] at hk
        exact ⟨_, G, σ, _, rfl, Gh.le.refl G, hr.more (More.of_below hb), .clo _ _ (tup2_rc _ _), hk⟩
      · rw [num_no h1] at hk
        exact ⟨_, G, σ, _, rfl, Gh.le.refl G, hr.more (More.of_below hb), .clo _ _ (tup2_rc _ _), hk n t⟩
    · exact hh.elim
  fk := fk33
theorem ecn33_f : ecn33.f = 33 := rfl
theorem ecn33_c {l : List UInt8} {σ : List AObj} {k : AV → List AObj → Prop} : ecn33.c [.lit (.string (bs l))] σ k = (l.length ≤ 1000000 ∧ atoiX l σ k) := by
  show ((ul (bs l)).length ≤ 1000000 ∧ atoiX (ul (bs l)) σ k) = _
  rw [ul_bs]
attribute [go_sem] ecn33_f ecn33_c
end Go.Proofs.YtdndgmcmmbjjkaaDoor.Tx

/- The numbers of a text. -/
namespace Go.Proofs.YtdndgmcmmbjjkaaDoor.Tx
open Go.Proofs.YtdndgmcmmbjjkaaDoor
open Go Go.Fw
set_option maxRecDepth 20000
def jkA : TypeId → AV := lookZ [(3, .lit (.int .i64 0)), (9, .lit (.string (bs []))), (5, .lit (.int .u8 0)), (22, .sl false 1 [])]
theorem jkA3 : jkA 3 = .lit (.int .i64 0) := rfl
theorem jkA9 : jkA 9 = .lit (.string (bs [])) := rfl
theorem jkA5 : jkA 5 = .lit (.int .u8 0) := rfl
theorem jkA22 : jkA 22 = .sl false 1 [] := rfl
attribute [go_sem] jkA3 jkA9 jkA5 jkA22
def numsF : List (List UInt8) → Option (List Int)
  | [] => some []
  | t :: r => match num? t with
    | some n => (numsF r).map (n :: ·)
    | none => none
def numV (l : List UInt8) : AV := match numsF (Lib.fieldsD l) with
  | some x => .tup [.sl false 1 (ints .i64 x), .lit (.bool true)]
  | none => .tup [.sl false 1 [], .lit (.bool false)]
theorem atoiX_some {l : List UInt8} {n : Int} (h : num? l = some n) {σ : List AObj} {k : AV → List AObj → Prop} : atoiX l σ k = k (.tup [.lit (.int .i64 n), .lit .nilIface]) σ := by unfold atoiX; rw [h]
theorem atoiX_none {l : List UInt8} (h : num? l = none) {σ : List AObj} {k : AV → List AObj → Prop} : atoiX l σ k = ∀ n v, k (.tup [.lit (.int .i64 n), .lit (.iface 92 v)]) σ := by unfold atoiX; rw [h]
theorem drop_get {α : Type} {l : List α} {i : Nat} (z : α) (h : i < l.length) : l.drop i = l.getD i z :: l.drop (i + 1) := by
  rw [List.drop_eq_getElem_cons h]
  congr 1
  rw [List.getD_eq_getElem?_getD, List.getElem?_eq_getElem h]; rfl
noncomputable def N1 : Env := envJ (P := Tryd.prog) jkA zer (fun _ => false) (fun _ => false) [con32] [ecn33]
theorem N1_ok : EnvOk Tryd.prog N1 := envJOk zer_ok
structure Nm (xs : List (List UInt8)) where
  i : Nat
  done : List Int
  v : Nat
  hi : i ≤ xs.length
  hd : done.length = i
  h : numsF xs = (numsF (xs.drop i)).map (done ++ ·)
set_option maxHeartbeats 4000000 in
theorem nums_pc {l : List UInt8} (hl : l.length ≤ 1000000) (hf : (Lib.fieldsD l).length ≤ 1000000) (hs : ∀ i, ((Lib.fieldsD l).getD i []).length ≤ 1000000) : PC Tryd.prog 21 [.lit (.string (bs l))] (numV l) := by
  unfold numV
  generalize hxs : Lib.fieldsD l = xs at hf hs
  generalize hR : (match numsF xs with
    | some x => AV.tup [.sl false 1 (ints .i64 x), .lit (.bool true)]
    | none => AV.tup [.sl false 1 [], .lit (.bool false)]) = R
  refine pcR N1_ok (kp21) Tryd.func21 [.tmp 2, .tmp 3] (h := fun KF => ?_)
  unfold N1
  repeat' (first
   | (with_reducible first | refine nx ?_ | refine t_seq fun K => ?_ | refine t_br (fun hc => ?_) fun hc => ?_ | refine t_bx ?_ | apply And.intro | intro vr)
   | ((with_reducible first | refine ny ?_ | refine t_dwh (h := fun K KL => ?_)); intros; simp only [go_sem, kp21, geff, hxs]))
  all_goals try exact nd
  refine t_loopF (ι := Nm xs) (fun i => [(12, .lit (.int .i64 i.i)), (4, .arr 0 i.v)]) (fun i => [.arr 3 1 (ints .i64 i.done) i.v false]) (fun i => xs.length - i.i) ⟨0, [], 0, by omega, rfl, by simp⟩ ?_ ?_
  · refine (le_nil 4 3 1 rfl).trans ?_
    exact lf
  rintro ⟨i, done, v, hi, hd, h⟩ K0
  have hgi := hs i
  rcases Nat.lt_or_ge i xs.length with hc | hc
  · have k1 : decide ((i : Int) < (xs.length : Int)) = true := decide_eq_true (by omega)
    rw [drop_get [] hc] at h
    have hi1 : ((i : Int) + 1) = ((i + 1 : Nat) : Int) := by omega
    generalize hg : xs.getD i [] = t at *
    cases hn : num? t with
    | some n =>
      repeat' (first
       | (with_reducible first | refine nx ?_ | refine t_seq fun K => ?_ | refine t_br (fun hc => ?_) fun hc => ?_ | refine t_bx ?_ | apply And.intro | intro vr)
       | ((with_reducible first | refine ny ?_ | refine t_dwh (h := fun K KL => ?_)); intros; simp only [go_sem, kp21, geff, k1, hg, atoiX_some hn, Int.toNat_natCast, yes]))
      all_goals try exact nd
      refine ⟨⟨i + 1, done ++ [n], v + 1, hc, by simp [hd], ?_⟩, by simp only; omega, ?_⟩
      · rw [h, numsF, hn]; simp only [Option.map_map, Function.comp_def, List.append_assoc, List.singleton_append]
      first | exact lf | (refine Le.frameS (by first | rfl | (simp only [go_sem]; try rfl)) ?_; repeat' (first | exact leF_top _ | exact (fun _ => LeR.refl _) | (with_reducible refine leF_sl ?_ ?_) | (refine leF_upd ?_ ?_))) <;> (first | exact LeR.top _ | exact LeR.refl _ | (refine LeR.of_eq ?_; (try simp only [go_sem]); try rfl) | ((try simp only [go_sem]); try rfl))
    | none =>
      repeat' (first
       | (with_reducible first | refine nx ?_ | refine t_seq fun K => ?_ | refine t_br (fun hc => ?_) fun hc => ?_ | refine t_bx ?_ | apply And.intro | intro vr)
       | ((with_reducible first | refine ny ?_ | refine t_dwh (h := fun K KL => ?_)); intros; simp only [go_sem, kp21, geff, k1, hg, atoiX_none hn, Int.toNat_natCast, yes]))
      all_goals try exact nd
      all_goals (refine nl ?_; simp only [go_sem])
      have hR2 : R = .tup [.sl false 1 [], .lit (.bool false)] := by rw [← hR, h, numsF, hn]; rfl
      exact hR2.symm ▸ LeA.tup ⟨LeA.nil _ _, LeA.refl _, trivial⟩
  · have k1 : decide ((i : Int) < (xs.length : Int)) = false := decide_eq_false (by omega)
    rw [List.drop_eq_nil_of_le hc] at h
    repeat' (first
     | (with_reducible first | refine nx ?_ | refine t_seq fun K => ?_ | refine t_br (fun hc => ?_) fun hc => ?_ | refine t_bx ?_ | apply And.intro | intro vr)
     | ((with_reducible first | refine ny ?_ | refine t_dwh (h := fun K KL => ?_)); intros; simp only [go_sem, kp21, geff, k1]))
    all_goals try exact nd
    all_goals (refine nl ?_; simp only [go_sem])
    exact LeA.of_eq (by rw [← hR, h]; simp [numsF])
theorem fgd_len : ∀ (f : Nat) (cur l : List UInt8), (Lib.fieldsGoD f cur l).length ≤ f + 1 ∧ ∀ t ∈ Lib.fieldsGoD f cur l, t.length ≤ cur.length + l.length
  | 0, cur, l => by
    unfold Lib.fieldsGoD
    split
    · exact ⟨by simp, by simp⟩
    · exact ⟨by simp, fun t ht => by simp at ht; subst ht; omega⟩
  | f + 1, cur, l => by
    unfold Lib.fieldsGoD
    split
    · split
      · exact ⟨by simp, by simp⟩
      · exact ⟨by simp, fun t ht => by simp at ht; subst ht; omega⟩
    · split
      · obtain ⟨i1, i2⟩ := fgd_len f [] (l.drop (Lib.decodeL l).2)
        refine ⟨?_, fun t ht => ?_⟩
        · rw [List.length_append]
          split
          · simp; omega
          · simp; omega
        · rcases List.mem_append.1 ht with h | h
          · split at h
            · simp at h
            · simp at h; subst h; omega
          · have := i2 t h
            rw [List.length_drop] at this
            simp at this
            omega
      · obtain ⟨i1, i2⟩ := fgd_len f (cur ++ l.take (Lib.decodeL l).2) (l.drop (Lib.decodeL l).2)
        refine ⟨by omega, fun t ht => ?_⟩
        have := i2 t ht
        rw [List.length_append, List.length_take, List.length_drop] at this
        omega
theorem getD_len {xs : List (List UInt8)} {n : Nat} (h : ∀ t ∈ xs, t.length ≤ n) (i : Nat) : (xs.getD i []).length ≤ n := by
  rw [List.getD_eq_getElem?_getD]
  rcases Nat.lt_or_ge i xs.length with hi | hi
  · rw [List.getElem?_eq_getElem hi]; exact h _ (List.getElem_mem hi)
  · rw [List.getElem?_eq_none hi]; simp
theorem nums_pc2 {l : List UInt8} (hl : l.length ≤ 500000) : PC Tryd.prog 21 [.lit (.string (bs l))] (numV l) := by
  have h := fgd_len (l.length + 1) [] l
  exact nums_pc (by omega) (by have := h.1; unfold Lib.fieldsD; omega) fun i => Nat.le_trans (getD_len (n := l.length) (fun t ht => by have := h.2 t ht; simpa using this) i) (by omega)
/-- The same, part by part. -/
def numL (l : List UInt8) : List Int := (numsF (Lib.fieldsD l)).getD []
def numB (l : List UInt8) : Bool := (numsF (Lib.fieldsD l)).isSome
theorem numV_sym (l : List UInt8) : numV l = .tup [.sl false 1 (ints .i64 (numL l)), .lit (.bool (numB l))] := by
  unfold numV numL numB
  cases numsF (Lib.fieldsD l) <;> rfl
theorem numsF_len : ∀ {xs : List (List UInt8)} {l : List Int}, numsF xs = some l → l.length = xs.length
  | [], l, h => by cases h; rfl
  | t :: r, l, h => by
    unfold numsF at h
    split at h
    · rw [Option.map_eq_some_iff] at h
      obtain ⟨m, hm, rfl⟩ := h
      rw [List.length_cons, List.length_cons, numsF_len hm]
    · cases h
theorem numL_len (l : List UInt8) : (numL l).length ≤ l.length + 2 := by
  unfold numL
  have h := (fgd_len (l.length + 1) [] l).1
  cases hq : numsF (Lib.fieldsD l) with
  | none => simp
  | some x => rw [Option.getD_some, numsF_len hq]; exact h
theorem nums_pc3 {s : ByteArray} (h : (ul s).length ≤ 500000) : PC Tryd.prog 21 [.lit (.string s)] (numV (ul s)) := by
  obtain ⟨l, rfl⟩ := bs_ex s
  rw [ul_bs] at *
  exact nums_pc2 h
noncomputable def con21 : PCon Tryd.prog where
  f := 21
  c := fun
    | [.lit (.string s)] => some ((ul s).length ≤ 500000, numV (ul s))
    | _ => none
  ok := by
    intro args p r hc hp
    split at hc
    · cases hc; exact (nums_pc3 hp)
    · cases hc
  fk := fk21
theorem con21_f : con21.f = 21 := rfl
theorem con21_c {s : ByteArray} : con21.c [.lit (.string s)] = some ((ul s).length ≤ 500000, numV (ul s)) := rfl
theorem con21_b {l : List UInt8} : con21.c [.lit (.string (bs l))] = some (l.length ≤ 500000, .tup [.sl false 1 (ints .i64 (numL l)), .lit (.bool (numB l))]) := by
  rw [con21_c, ul_bs, numV_sym]
attribute [go_sem] con21_f con21_b
end Go.Proofs.YtdndgmcmmbjjkaaDoor.Tx

/- The document's text of an array. -/
namespace Go.Proofs.YtdndgmcmmbjjkaaDoor.Tx
open Go.Proofs.YtdndgmcmmbjjkaaDoor
open Go Go.Fw
set_option maxRecDepth 20000
def big : Int := 4611686018427387904
noncomputable def con17r (N : Int) (h : ∀ m : Int, 0 ≤ m → m < N → PC Tryd.prog 17 [.lit (.int .i64 m)] (.lit (.string (bs (Lib.itoa m))))) : PCon Tryd.prog where
  f := 17
  c := fun
    | [.lit (.int .i64 m)] => some (0 ≤ m ∧ m < N, .lit (.string (bs (Lib.itoa m))))
    | _ => none
  ok := by
    intro args p r hc hp
    split at hc
    · cases hc; exact h _ hp.1 hp.2
    · cases hc
  fk := fk17
section
variable {N : Int} {h : ∀ m : Int, 0 ≤ m → m < N → PC Tryd.prog 17 [.lit (.int .i64 m)] (.lit (.string (bs (Lib.itoa m))))}
theorem con17r_f : (con17r N h).f = 17 := rfl
theorem con17r_c {m : Int} : (con17r N h).c [.lit (.int .i64 m)] = some (0 ≤ m ∧ m < N, .lit (.string (bs (Lib.itoa m)))) := rfl
end
attribute [go_sem] con17r_f con17r_c
noncomputable def Y11 (N : Int) (h : ∀ m : Int, 0 ≤ m → m < N → PC Tryd.prog 17 [.lit (.int .i64 m)] (.lit (.string (bs (Lib.itoa m))))) : Env := envJ (P := Tryd.prog) jkA zer (fun _ => false) (fun _ => false) [con17r N h] []
theorem Y11_ok (N : Int) (h : ∀ m : Int, 0 ≤ m → m < N → PC Tryd.prog 17 [.lit (.int .i64 m)] (.lit (.string (bs (Lib.itoa m))))) : EnvOk Tryd.prog (Y11 N h) := envJOk zer_ok
theorem itoa_lt {n : Int} (h0 : 0 ≤ n) (h1 : n < 10) : Lib.itoa n = [UInt8.ofNat (48 + n.toNat)] := by
  unfold Lib.itoa
  rw [if_neg (by omega), Lib.decDigits, dif_pos (by omega)]
theorem itoa_ge {n q m : Int} (h1 : ¬ n < 10) (hq : n = 10 * q + m) (hm : 0 ≤ m ∧ m < 10) : Lib.itoa n = Lib.itoa q ++ [UInt8.ofNat (48 + m.toNat)] := by
  unfold Lib.itoa
  rw [if_neg (by omega), if_neg (by omega), Lib.decDigits, dif_neg (by omega)]
  congr 2
  · congr 1; omega
  · congr 2; omega
theorem itoa_negI {n : Int} (h : n < 0) : Lib.itoa n = 45 :: Lib.itoa (-n) := by
  unfold Lib.itoa
  rw [if_pos h, if_neg (by omega)]
  congr 2; omega
theorem dig_bs {m : Int} (h : 0 ≤ m ∧ m < 10) : bytesOf [48 + m] = bs [UInt8.ofNat (48 + m.toNat)] := by
  have e : (48 + m).toNat = 48 + m.toNat := by omega
  unfold bytesOf bs
  simp only [List.map_cons, List.map_nil, e]
theorem dec_pos (n : Int) (h0 : 0 ≤ n) (hb : n ≤ big) (ih : ∀ m : Int, 0 ≤ m → m < n → PC Tryd.prog 17 [.lit (.int .i64 m)] (.lit (.string (bs (Lib.itoa m))))) : PC Tryd.prog 17 [.lit (.int .i64 n)] (.lit (.string (bs (Lib.itoa n)))) := by
  unfold big at hb
  have hm0 := Int.tmod_nonneg (b := 10) h0
  have hm1 := Int.tmod_lt_of_pos n (show (0 : Int) < 10 by omega)
  have hq := Int.mul_tdiv_add_tmod n 10
  generalize hmm : n.tmod 10 = m at *
  generalize hqq : n.tdiv 10 = q at *
  have g1 : decide (n < 0) = false := decide_eq_false (by omega)
  have hdb := dig_bs ⟨hm0, hm1⟩
  have hu8 : IntKind.u8.wrap (48 + m) = 48 + m := by rw [IntKind.wrap_u8]; omega
  have hu : u8sOf [AV.lit (.int .u8 (48 + m))] = some [48 + m] := rfl
  by_cases h10 : n < 10
  · have g2 : decide (n < 10) = true := decide_eq_true h10
    have hr : Lib.itoa n = [UInt8.ofNat (48 + m.toNat)] := by rw [itoa_lt h0 h10]; congr 3; omega
    refine pcR (Y11_ok n ih) (kp17) Tryd.func17 [.tmp 2] (h := fun KF => ?_)
    unfold Y11
    repeat' (first
     | (with_reducible first | refine nx ?_ | refine t_seq fun K => ?_ | refine t_br (fun hc => ?_) fun hc => ?_ | refine t_bx ?_ | apply And.intro | intro vr)
     | ((with_reducible first | refine ny ?_ | refine t_dwh (h := fun K KL => ?_)); intros; simp only [go_sem, kp17, geff, g1, g2, hmm, hqq, hu8, hu, hdb]))
    all_goals try exact nd
    all_goals (refine nl ?_; simp only [go_sem])
    exact LeA.of_eq (by rw [hr])
  · have g2 : decide (n < 10) = false := decide_eq_false h10
    have hr := itoa_ge h10 hq.symm ⟨hm0, hm1⟩
    have hil := Lib.itoa_length_le q (by omega) (by omega)
    refine pcR (Y11_ok n ih) (kp17) Tryd.func17 [.tmp 2] (h := fun KF => ?_)
    unfold Y11
    repeat' (first
     | (with_reducible first | refine nx ?_ | refine t_seq fun K => ?_ | refine t_br (fun hc => ?_) fun hc => ?_ | refine t_bx ?_ | apply And.intro | intro vr)
     | ((with_reducible first | refine ny ?_ | refine t_dwh (h := fun K KL => ?_)); intros; simp only [go_sem, kp17, geff, g1, g2, hmm, hqq, hu8, hu, hdb]))
    all_goals try exact nd
    all_goals (refine nl ?_; simp only [go_sem])
    exact LeA.of_eq (by rw [hr])
theorem dec_all : ∀ (N : Nat) (n : Int), 0 ≤ n → n < N → n ≤ big → PC Tryd.prog 17 [.lit (.int .i64 n)] (.lit (.string (bs (Lib.itoa n))))
  | 0, n, h0, h1, _ => by omega
  | N + 1, n, h0, h1, hb => dec_pos n h0 hb fun m m0 m1 => dec_all N m m0 (by omega) (by omega)
theorem dec_nn {n : Int} (h0 : 0 ≤ n) (hb : n ≤ big) : PC Tryd.prog 17 [.lit (.int .i64 n)] (.lit (.string (bs (Lib.itoa n)))) := dec_all (n.toNat + 1) n h0 (by omega) hb
theorem min_bs (l : List UInt8) : (⟨#[45]⟩ : ByteArray) ++ bs l = bs (45 :: l) := by rw [show (⟨#[45]⟩ : ByteArray) = bs [45] from rfl, bs_app]; rfl
theorem dec_pc {n : Int} (h : -big ≤ n ∧ n ≤ big) : PC Tryd.prog 17 [.lit (.int .i64 n)] (.lit (.string (bs (Lib.itoa n)))) := by
  by_cases h0 : 0 ≤ n
  · exact dec_nn h0 h.2
  · have ih : ∀ m : Int, 0 ≤ m → m < big + 1 → PC Tryd.prog 17 [.lit (.int .i64 m)] (.lit (.string (bs (Lib.itoa m)))) := fun m m0 m1 => dec_nn m0 (by omega)
    have g1 : decide (n < 0) = true := decide_eq_true (by omega)
    have hr := itoa_negI (n := n) (by omega)
    have hz : (0 : Int) - n = -n := by omega
    obtain ⟨hb0, hb1⟩ := h
    have hlt : -n < big + 1 := by omega
    have hge : 0 ≤ -n := by omega
    have hil := Lib.itoa_length_le (-n) (by omega) (by unfold big at *; omega)
    have h45 : (#[45] : Array UInt8).size = 1 := rfl
    have hi : inI64 (-n) := by unfold big at *; exact ⟨by omega, by omega⟩
    refine pcR (Y11_ok (big + 1) ih) (kp17) Tryd.func17 [.tmp 2] (h := fun KF => ?_)
    unfold Y11
    repeat' (first
     | (with_reducible first | refine nx ?_ | refine t_seq fun K => ?_ | refine t_br (fun hc => ?_) fun hc => ?_ | refine t_bx ?_ | apply And.intro | intro vr)
     | ((with_reducible first | refine ny ?_ | refine t_dwh (h := fun K KL => ?_)); intros; simp only [go_sem, kp17, geff, g1, hz, min_bs]))
    all_goals try exact nd
    all_goals (refine nl ?_; simp only [go_sem])
    exact LeA.of_eq (by rw [hr])
/-- Small enough. -/
structure Bg (n : Int) : Prop where
  lo : -big ≤ n
  hi : n ≤ big
noncomputable def con17 : PCon Tryd.prog where
  f := 17
  c := fun
    | [.lit (.int .i64 n)] => some (Bg n, .lit (.string (bs (Lib.itoa n))))
    | _ => none
  ok := by
    intro args p r hc hp
    split at hc
    · cases hc; exact ((fun hp : Bg _ => dec_pc ⟨hp.lo, hp.hi⟩) hp)
    · cases hc
  fk := fk17
theorem con17_f : con17.f = 17 := rfl
theorem con17_c {n : Int} : con17.c [.lit (.int .i64 n)] = some (Bg n, .lit (.string (bs (Lib.itoa n)))) := rfl
attribute [go_sem] con17_f con17_c
/-- The text of dimensions, of elements, of an array. -/
def dimsB : Nat → List Int → List UInt8
  | _, [] => []
  | 0, d :: l => Lib.itoa d ++ dimsB 1 l
  | n + 1, d :: l => 32 :: Lib.itoa d ++ dimsB (n + 2) l
def dataB (l : List Int) : List UInt8 := l.flatMap fun n => 32 :: Lib.itoa n
def headB (e : ByteArray) : List UInt8 := if eqS e sBool = true then [35, 98, 91] else [35, 91]
def textA (a : Arr) : List UInt8 := headB a.e ++ dimsB 0 a.d ++ 58 :: dataB a.x ++ [93]
def printT (a : Arr) : AV := if ofE a = 0 then .tup [.lit (.string (bs (textA a))), .lit (.int .i64 0)] else .tup [.lit (.string (bs [])), .lit (.int .i64 1)]
theorem dimsB_app : ∀ (l m : List Int) (n : Nat), dimsB n (l ++ m) = dimsB n l ++ dimsB (n + l.length) m
  | [], m, n => by simp [dimsB]
  | d :: l, m, 0 => by simp only [List.cons_append, dimsB, dimsB_app l m 1, List.append_assoc, List.length_cons]; rw [show 0 + (l.length + 1) = 1 + l.length by omega]
  | d :: l, m, n + 1 => by simp only [List.cons_append, dimsB, dimsB_app l m (n + 2), List.append_assoc, List.length_cons]; rw [show n + 1 + (l.length + 1) = n + 2 + l.length by omega]
theorem dataB_app (l m : List Int) : dataB (l ++ m) = dataB l ++ dataB m := by simp [dataB, List.flatMap_append]
/-- The numbers of valid arrays are small. -/
structure Sm (a : Arr) : Prop where
  d : ∀ n ∈ a.d, 0 ≤ n ∧ n ≤ 4096
  x : ∀ n ∈ a.x, -2147483648 ≤ n ∧ n ≤ 2147483647
  dl : a.d.length ≤ 6
  xl : a.x.length ≤ 4096
  s : sizeS a.d = ((a.x.length : Int), 0)
  e : a.e = sInt ∨ a.e = sBool
theorem eqS_iff' {a b : ByteArray} : eqS a b = true ↔ a = b := by
  unfold eqS
  rw [beq_iff_eq]
  constructor
  · intro h
    apply ByteArray.ext
    apply Array.ext'
    simpa using h
  · intro h; rw [h]
theorem sm_of {a : Arr} (h : ofE a = 0) : Sm a := by
  unfold ofE at h
  split at h
  · cases h
  rename_i he
  split at h
  · rename_i h2; exact absurd h h2
  rename_i h2
  split at h
  · cases h
  rename_i h3
  split at h
  · cases h
  rename_i h4
  have hz := sizeS_bd a.d
  have h2' : (sizeS a.d).2 = 0 := by simpa using h2
  have h3' : (a.x.length : Int) = (sizeS a.d).1 := by simpa using h3
  have he' : a.e = sInt ∨ a.e = sBool := by
    rw [Bool.not_eq_false, Bool.or_eq_true, eqS_iff', eqS_iff'] at he; exact he
  have hdl : a.d.length ≤ 6 := by
    unfold sizeS at h2'
    split at h2'
    · cases h2'
    · omega
  have hbad : ¬ a.d.any badD = true := by
    intro hb
    unfold sizeS at h2'
    rw [if_neg (by omega), if_pos hb] at h2'
    cases h2'
  refine ⟨bad_no hbad, fun n hn => ?_, hdl, by omega, ?_, he'⟩
  · have hv : vld a.e n = true := by
      cases hq : vld a.e n with
      | true => rfl
      | false => exact absurd (List.any_eq_true.2 ⟨n, hn, by simp [hq]⟩) h4
    unfold vld at hv
    split at hv
    · simpa using hv
    · split at hv
      · have : n = 0 ∨ n = 1 := by simpa using hv
        omega
      · cases hv
  · rw [← h2', h3']
theorem itoa_len {n : Int} (h : -1000000000000 ≤ n ∧ n ≤ 1000000000000) : (Lib.itoa n).length ≤ 21 := Lib.itoa_length_le n (by omega) (by omega)
theorem dims_len : ∀ (l : List Int) (k : Nat), (∀ n ∈ l, 0 ≤ n ∧ n ≤ 4096) → (dimsB k l).length ≤ 22 * l.length
  | [], _, _ => by simp [dimsB]
  | d :: l, 0, h => by
    have h1 := itoa_len (n := d) (by have := h d (by simp); omega)
    have h2 := dims_len l 1 fun n hn => h n (by simp [hn])
    simp only [dimsB, List.length_append, List.length_cons]; omega
  | d :: l, k + 1, h => by
    have h1 := itoa_len (n := d) (by have := h d (by simp); omega)
    have h2 := dims_len l (k + 2) fun n hn => h n (by simp [hn])
    simp only [dimsB, List.length_append, List.length_cons]; omega
theorem data_len : ∀ (l : List Int), (∀ n ∈ l, -2147483648 ≤ n ∧ n ≤ 2147483647) → (dataB l).length ≤ 22 * l.length
  | [], _ => by simp [dataB]
  | d :: l, h => by
    have h1 := itoa_len (n := d) (by have := h d (by simp); omega)
    have h2 := data_len l fun n hn => h n (by simp [hn])
    have e : dataB (d :: l) = 32 :: Lib.itoa d ++ dataB l := by simp [dataB]
    rw [e]
    simp only [List.length_append, List.length_cons]; omega
theorem head_len (e : ByteArray) : (headB e).length ≤ 3 := by unfold headB; split <;> simp
theorem text_len {a : Arr} (h : Sm a) : (textA a).length ≤ 100000 := by
  have h1 := dims_len a.d 0 h.d
  have h2 := data_len a.x h.x
  have h3 := head_len a.e
  have h4 := h.dl
  have h5 := h.xl
  simp only [textA, List.length_append, List.length_cons, List.length_nil]; omega
theorem take_dims {l : List Int} {i : Nat} (h : i < l.length) : dimsB 0 (l.take (i + 1)) = dimsB 0 (l.take i) ++ (if 0 < i then [32] else []) ++ Lib.itoa (l.getD i 0) := by
  have e : l.take (i + 1) = l.take i ++ [l.getD i 0] := by rw [List.take_add_one, List.getElem?_eq_getElem h, List.getD_eq_getElem?_getD, List.getElem?_eq_getElem h]; rfl
  rw [e, dimsB_app, List.length_take, Nat.min_eq_left (by omega), Nat.zero_add]
  cases i with
  | zero => simp [dimsB]
  | succ i => simp [dimsB]
theorem take_data {l : List Int} {i : Nat} (h : i < l.length) : dataB (l.take (i + 1)) = dataB (l.take i) ++ 32 :: Lib.itoa (l.getD i 0) := by
  have e : l.take (i + 1) = l.take i ++ [l.getD i 0] := by rw [List.take_add_one, List.getElem?_eq_getElem h, List.getD_eq_getElem?_getD, List.getElem?_eq_getElem h]; rfl
  rw [e, dataB_app]
  simp [dataB]
theorem getD_mem' {l : List Int} {i : Nat} (h : i < l.length) : l.getD i 0 ∈ l := by
  rw [List.getD_eq_getElem?_getD, List.getElem?_eq_getElem h]; exact List.getElem_mem h
def dT (H : List UInt8) (l : List Int) (i : Nat) : List UInt8 := H ++ dimsB 0 (l.take i)
def xT (H : List UInt8) (l : List Int) (i : Nat) : List UInt8 := H ++ dataB (l.take i)
theorem dT0 {H : List UInt8} {l : List Int} : dT H l 0 = H := by simp [dT, dimsB]
theorem xT0 {H : List UInt8} {l : List Int} : xT H l 0 = H := by simp [xT, dataB]
attribute [go_sem] dT0 xT0
theorem dT_succ {H : List UInt8} {l : List Int} {i : Nat} (h : i < l.length) : dT H l (i + 1) = dT H l i ++ (if 0 < i then [32] else []) ++ Lib.itoa (l.getD i 0) := by simp only [dT, take_dims h, List.append_assoc]
theorem xT_succ {H : List UInt8} {l : List Int} {i : Nat} (h : i < l.length) : xT H l (i + 1) = xT H l i ++ 32 :: Lib.itoa (l.getD i 0) := by simp only [xT, take_data h, List.append_assoc]
theorem dT_len {H : List UInt8} {l : List Int} (hl : l.length ≤ 6) (h : ∀ n ∈ l, 0 ≤ n ∧ n ≤ 4096) (hH : H.length ≤ 3) (i : Nat) : (dT H l i).length ≤ 200 := by
  have h1 := dims_len (l.take i) 0 fun n hn => h n (List.mem_of_mem_take hn)
  have h2 := List.length_take_le i l
  simp only [dT, List.length_append]
  have : (l.take i).length ≤ 6 := by rw [List.length_take]; omega
  omega
theorem xT_len {H : List UInt8} {l : List Int} (hl : l.length ≤ 4096) (h : ∀ n ∈ l, -2147483648 ≤ n ∧ n ≤ 2147483647) (hH : H.length ≤ 1000) (i : Nat) : (xT H l i).length ≤ 100000 := by
  have h1 := data_len (l.take i) fun n hn => h n (List.mem_of_mem_take hn)
  simp only [xT, List.length_append]
  have : (l.take i).length ≤ 4096 := by rw [List.length_take]; omega
  omega
theorem b58 (l : List UInt8) : bs l ++ (⟨#[58]⟩ : ByteArray) = bs (l ++ [58]) := by rw [show (⟨#[58]⟩ : ByteArray) = bs [58] from rfl, bs_app]
attribute [go_sem] con16_f con13_f con11_f con24_f con9_f con5_f
noncomputable def P7 : Env := envJ (P := Tryd.prog) jkA zer (fun _ => false) (fun _ => false) [con16, con17] []
theorem P7_ok : EnvOk Tryd.prog P7 := envJOk zer_ok
set_option maxHeartbeats 4000000 in
theorem rprint_pc {a : Arr} (h1 : a.d.length ≤ 1000000) (h2 : a.x.length ≤ 1000000) : PC Tryd.prog 7 [arrV a] (printT a) := by
  unfold printT
  by_cases h0 : ofE a = 0
  · rw [if_pos h0]
    have hs := sm_of h0
    have g0 : (ofE a == 0) = true := by rw [h0]; rfl
    have hsb : (⟨#[98, 111, 111, 108]⟩ : ByteArray) = sBool := rfl
    have hR : textA a = xT (dT (headB a.e) a.d a.d.length ++ [58]) a.x a.x.length ++ [93] := by simp [textA, dT, xT]
    have hb : headB a.e = if eqS a.e sBool = true then [35, 98, 91] else [35, 91] := rfl
    have hsd := hs.d
    have hsx := hs.x
    have hdl := hs.dl
    have hxl := hs.xl
    have hhl := head_len a.e
    rw [hR]
    generalize headB a.e = H at *
    clear hR
    cases hq : eqS a.e sBool
    all_goals
      rw [hq] at hb
      simp only [Bool.false_eq_true, if_false, if_true] at hb
      have hbb := congrArg bs hb.symm
      clear hb
      refine pcR P7_ok (kp7) Tryd.func7 [.tmp 2, .tmp 3] (h := fun KF => ?_)
      unfold P7
      repeat' (first
       | (with_reducible first | refine nx ?_ | refine t_seq fun K => ?_ | refine t_br (fun hc => ?_) fun hc => ?_ | refine t_bx ?_ | apply And.intro | intro vr)
       | ((with_reducible first | refine ny ?_ | refine t_dwh (h := fun K KL => ?_)); intros; simp only [go_sem, kp7, geff, con16_f, con16_c, con17_f, con17_c, arrV_def, arrOf_agg, slK_sl, g0, hsb, hq, hbb]))
      all_goals try exact nd
      refine t_loopF (ι := { i : Nat // i ≤ a.d.length }) (fun i => [(5, .lit (.int .i64 i.1)), (4, .lit (.string (bs (dT H a.d i.1))))]) (fun i => [.box 24 [.lit (.string a.e), .sl false 1 (ints .i64 a.d), .sl false 1 (ints .i64 a.x)]]) (fun i => a.d.length - i.1) ⟨0, by omega⟩ ?_ ?_
      · exact lf
      rintro ⟨i, hi⟩ K0
      have hTl := dT_len hdl hsd hhl i
      rcases Nat.lt_or_ge i a.d.length with hc | hc
      · have k1 : decide ((i : Int) < (a.d.length : Int)) = true := decide_eq_true (by omega)
        have hn := hsd _ (getD_mem' hc)
        have hil := itoa_len (n := a.d.getD i 0) (by omega)
        have hsu := dT_succ (H := H) hc
        generalize hg : a.d.getD i 0 = n at *
        generalize dT H a.d i = T at *
        have hbig : Bg n := ⟨by unfold big; omega, by unfold big; omega⟩
        rcases Nat.eq_zero_or_pos i with hz | hz
        · have k2 : decide ((i : Int) > 0) = false := decide_eq_false (by omega)
          rw [if_neg (by omega), List.append_nil] at hsu
          repeat' (first
           | (with_reducible first | refine nx ?_ | refine t_seq fun K => ?_ | refine t_br (fun hc => ?_) fun hc => ?_ | refine t_bx ?_ | apply And.intro | intro vr)
           | ((with_reducible first | refine ny ?_ | refine t_dwh (h := fun K KL => ?_)); intros; simp only [go_sem, kp7, geff, con17_f, con17_c, k1, k2, hg, Int.toNat_natCast, hsu.symm, yes]))
          all_goals try exact nd
          exact ⟨⟨i + 1, hc⟩, wf, lf⟩
        · have k2 : decide ((i : Int) > 0) = true := decide_eq_true (by omega)
          rw [if_pos hz] at hsu
          repeat' (first
           | (with_reducible first | refine nx ?_ | refine t_seq fun K => ?_ | refine t_br (fun hc => ?_) fun hc => ?_ | refine t_bx ?_ | apply And.intro | intro vr)
           | ((with_reducible first | refine ny ?_ | refine t_dwh (h := fun K KL => ?_)); intros; simp only [go_sem, kp7, geff, con17_f, con17_c, k1, k2, hg, Int.toNat_natCast, hsu.symm, yes]))
          all_goals try exact nd
          exact ⟨⟨i + 1, hc⟩, wf, lf⟩
      · have k1 : decide ((i : Int) < (a.d.length : Int)) = false := decide_eq_false (by omega)
        have hi2 : i = a.d.length := by omega
        subst hi2
        have hGl : (dT H a.d a.d.length ++ [58]).length ≤ 1000 := by simp only [List.length_append, List.length_singleton]; omega
        generalize hG : dT H a.d a.d.length = G at *
        repeat' (first
         | (with_reducible first | refine nx ?_ | refine t_seq fun K => ?_ | refine t_br (fun hc => ?_) fun hc => ?_ | refine t_bx ?_ | apply And.intro | intro vr)
         | ((with_reducible first | refine ny ?_ | refine t_dwh (h := fun K KL => ?_)); intros; simp only [go_sem, kp7, geff, con17_f, con17_c, k1, b58]))
        all_goals try exact nd
        generalize G ++ [58] = G2 at *
        refine t_loopF (ι := { i : Nat // i ≤ a.x.length }) (fun i => [(6, .lit (.int .i64 i.1)), (4, .lit (.string (bs (xT G2 a.x i.1))))]) (fun i => [.box 24 [.lit (.string a.e), .sl false 1 (ints .i64 a.d), .sl false 1 (ints .i64 a.x)]]) (fun i => a.x.length - i.1) ⟨0, by omega⟩ ?_ ?_
        · exact lf
        rintro ⟨i, hi⟩ K0
        have hTl := xT_len hxl hsx hGl i
        rcases Nat.lt_or_ge i a.x.length with hc | hc
        · have k1 : decide ((i : Int) < (a.x.length : Int)) = true := decide_eq_true (by omega)
          have hn := hsx _ (getD_mem' hc)
          have hil := itoa_len (n := a.x.getD i 0) (by omega)
          have hsu := xT_succ (H := G2) hc
          generalize hg : a.x.getD i 0 = n at *
          generalize xT G2 a.x i = T at *
          have hbig : Bg n := ⟨by unfold big; omega, by unfold big; omega⟩
          repeat' (first
           | (with_reducible first | refine nx ?_ | refine t_seq fun K => ?_ | refine t_br (fun hc => ?_) fun hc => ?_ | refine t_bx ?_ | apply And.intro | intro vr)
           | ((with_reducible first | refine ny ?_ | refine t_dwh (h := fun K KL => ?_)); intros; simp only [go_sem, kp7, geff, con17_f, con17_c, k1, hg, Int.toNat_natCast, List.cons_append, List.nil_append, hsu.symm, yes]))
          all_goals try exact nd
          exact ⟨⟨i + 1, hc⟩, wf, lf⟩
        · have k1 : decide ((i : Int) < (a.x.length : Int)) = false := decide_eq_false (by omega)
          have hi2 : i = a.x.length := by omega
          subst hi2
          repeat' (first
           | (with_reducible first | refine nx ?_ | refine t_seq fun K => ?_ | refine t_br (fun hc => ?_) fun hc => ?_ | refine t_bx ?_ | apply And.intro | intro vr)
           | ((with_reducible first | refine ny ?_ | refine t_dwh (h := fun K KL => ?_)); intros; simp only [go_sem, kp7, geff, con17_f, con17_c, k1]))
          all_goals try exact nd
          all_goals (refine nl ?_; simp only [go_sem])
          exact LeA.refl _
  · rw [if_neg h0]
    have g0 : (ofE a == 0) = false := by simpa using h0
    refine pcR P7_ok (kp7) Tryd.func7 [.tmp 2, .tmp 3] (h := fun KF => ?_)
    unfold P7
    repeat' (first
     | (with_reducible first | refine nx ?_ | refine t_seq fun K => ?_ | refine t_br (fun hc => ?_) fun hc => ?_ | refine t_bx ?_ | apply And.intro | intro vr)
     | ((with_reducible first | refine ny ?_ | refine t_dwh (h := fun K KL => ?_)); intros; simp only [go_sem, kp7, geff, con16_f, con16_c, con17_f, con17_c, arrV_def, arrOf_agg, slK_sl, g0]))
    all_goals try exact nd
    all_goals (refine nl ?_; simp only [go_sem])
    exact LeA.refl _
end Go.Proofs.YtdndgmcmmbjjkaaDoor.Tx

/- A numeral appended to the bytes of a literal: they are full, so the row moves. -/
namespace Go.Proofs.YtdndgmcmmbjjkaaDoor.Tx
open Go.Proofs.YtdndgmcmmbjjkaaDoor
open Go Go.Fw Go.RowKit Go.Sort Go.Lib
set_option maxRecDepth 100000
theorem i5 : ∃ i : TypeInfo, Tryd.prog.info? 5 = some i ∧ i.zero = some (.int .u8 0) ∧ i.size = 1 ∧ i.bytes = 1 := ⟨_, rfl, by kernel_rfl, by kernel_rfl, by kernel_rfl⟩
theorem u38' : Tryd.prog.underlying 38 = some (.slice 5) := by kernel_rfl
theorem u9' : Tryd.prog.underlying 9 = some .string := by kernel_rfl
theorem u75' : Tryd.prog.underlying 75 = some (.array 24 5) := by kernel_rfl
/-- A full row, marked or not. -/
def Mk (w : World) (sv : Value) (xs : List Value) : Prop := ∃ g cur fz, sv = .slice (some ⟨g, 0, none⟩) xs.length xs.length ∧ w.heap[g]? = some (.cells cur 5 fz) ∧ cur.toList = xs
theorem Mk.cells {w : World} {g : Nat} {xs : List Value} {cur : Array Value} {fz : Nat × Nat} (hg : w.heap[g]? = some (.cells cur 5 fz)) (hx : cur.toList = xs) : ∀ j u, xs[j]? = some u → w.cell? ((⟨g, 0, none⟩ : Addr).add j) = some u := by
  intro j u hj
  subst hx
  rw [Array.getElem?_toList] at hj
  rw [Lib.add_plain, Nat.zero_add]
  simp [World.cell?, hg, hj]
theorem Mk.below {w w' : World} {sv : Value} {xs : List Value} (h : Mk w sv xs) (hb : Below w.heap.size w w') : Mk w' sv xs := by
  obtain ⟨g, cur, fz, rfl, hg, hx⟩ := h
  exact ⟨g, cur, fz, rfl, by rw [hb.block _ (Array.getElem?_eq_some_iff.1 hg).1]; exact hg, hx⟩
section
variable {ops : Array Oper} {rest : List Oper} {o : Oper} {a : Act} {Q : Exit → Act → World → Prop}
/-- A text appended. -/
theorem wpl_grow_str (w : World) (hgd : o.guard = none) (sl x : Operand) (ho : o.op = .call { callee := .builtin .append, args := #[sl, x], argTypes := #[38, 9] })
    (sv : Value) (xs : List Value) (hs : a.eval sl = sv) (hm : Mk w sv xs) (s : ByteArray) (hx : a.eval x = .string s) (hpos : 0 < s.size) (hb : xs.length + s.size ≤ 1000000)
    (h : ∀ v' w', w'.ownsRow w.heap.size 5 1 v' (xs.length + s.size) (xs ++ Lib.strCells s) → Below w.heap.size w w' → wpList Tryd.prog ops Q rest (a.put o.dst v') w') : wpList Tryd.prog ops Q (o :: rest) a w := by
  refine wpList_plain hgd fun K hK => ?_
  obtain ⟨g, cur, fz, rfl, hg, hc⟩ := hm
  obtain ⟨i0, hi, hz, hz1, hz2⟩ := i5
  have hmx : 1000000 ≤ maxLen := by decide
  have hr := Lib.run_append_grow_string (P := Tryd.prog) w 38 9 o.type 5 i0 (.int .u8 0) u38' u9' hi hz ⟨g, 0, none⟩ xs.length xs.length xs (by rw [hz1, Nat.mul_one]) (Mk.cells hg hc) s (by omega) (by omega) (by rw [hz2]; exact growslice_fits (by omega) (by omega))
  unfold Oper.wp execOp
  simp only [ho, resolve, invoke, builtin, Sem.run_bind, Sem.run_pure, Result.andThen_ok, List.map_toArray, List.map_cons, List.map_nil, hs, hx, hr]
  have hlen : (xs ++ Lib.strCells s).length = (xs.length + s.size) * 1 := by rw [List.length_append, Lib.strCells_length, Nat.mul_one]
  have hge := grownCap_ge w (xs.length + s.size) xs.length 5
  have hcm : grownCap w (xs.length + s.size) xs.length 5 ≤ maxLen := grownCap_le_maxLen w (xs.length + s.size) xs.length 5 (by omega)
  refine hK _ _ (h _ _ ⟨hlen, .inr ⟨w.heap.size, _, _, rfl, Nat.le_refl _, heap_alloc_new w.drew _, hge, hcm, ?_, ?_⟩⟩ ⟨rfl, rfl, rfl, by simp, fun k hk => heap_alloc_old w.drew _ hk⟩)
  · have hz1 : (Value.int IntKind.u8 0).cells.size = 1 := rfl
    simp only [Array.size_append, List.size_toArray, size_zeroCells, hz1, Lib.strCells_length]
    omega
  · simp only [Array.toList_append, List.append_assoc]
    rw [← List.append_assoc, ← hlen]
    exact List.take_left
end
theorem below_grown {w w' : World} (h : w.grownBy w' none) : Below w.heap.size w w' := ⟨h.os, h.tape, h.output, h.size, fun k hk => h.block k hk (by simp)⟩
theorem dec_small {u : Nat} (hu : u < 100) : (Lib.decDigits u).length ≤ 20 := by
  rw [Lib.decDigits_length]
  by_cases h10 : u < 10
  · rw [Lib.nDigits_small h10]; omega
  · rw [Lib.nDigits_big h10, Lib.nDigits_small (show u / 10 < 10 by omega)]; omega
set_option maxHeartbeats 2000000 in
theorem apu_small {u : Nat} (hu : u < 100) {sv : Value} {xs : List Value} {w : World} (hm : Mk w sv xs) (hl : xs.length ≤ 100) :
    Calls Tryd.prog 41 #[sv, .int .u64 u, .int .i64 10] w fun e w' => ∃ v', e = .returned v' ∧ w'.ownsRow w.heap.size 5 1 v' (xs.length + (Lib.decDigits u).length) (xs ++ Lib.byteCells (Lib.decDigits u)) ∧ Below w.heap.size w w' := by
  have hd := dec_small hu
  have hne := List.length_pos_iff.2 (digits_ne u)
  have hsz : (⟨(Lib.decDigits u).toArray⟩ : ByteArray).size = (Lib.decDigits u).length := by simp [ByteArray.size]
  have hS := Tryd.internal_strconv_small u hu
  go_enter Tryd.func41, Tryd.ntmps41
  go_wp2_with (first
    | (go_at_call 51; refine (hS _).mono ?_; rintro e w' ⟨rfl, rfl⟩)
    | (at_builtin; refine wpl_grow_str _ rfl _ _ rfl _ xs rfl hm ⟨(Lib.decDigits u).toArray⟩ rfl (by rw [hsz]; exact hne) (by rw [hsz]; omega) ?_))
  intro v' w1 hown hb
  go_wp2
  go_ret
  refine ⟨v', rfl, ?_, hb⟩
  try rw [hsz] at hown
  have e : Lib.strCells ⟨(Lib.decDigits u).toArray⟩ = Lib.byteCells (Lib.decDigits u) := by rw [Lib.strCells_eq]
  rw [e] at hown
  exact hown
set_option maxHeartbeats 4000000 in
theorem apu_big {u : Nat} (hu : 100 ≤ u) (hu64 : u < 18446744073709551616) {sv : Value} {xs : List Value} {w : World} (hm : Mk w sv xs) (hl : xs.length ≤ 100) (hT : Tabs w) :
    Calls Tryd.prog 41 #[sv, .int .u64 u, .int .i64 10] w fun e w' => ∃ v', e = .returned v' ∧ w'.ownsRow w.heap.size 5 1 v' (xs.length + (Lib.decDigits u).length) (xs ++ Lib.byteCells (Lib.decDigits u)) ∧ Below w.heap.size w w' := by
  have htab := hT.pow
  have hu1 : 1 ≤ u := by omega
  have hnd20 : Lib.nDigits u ≤ 20 := by have := Lib.numDigits_eq u hu1 hu64; split at this <;> omega
  have hal : Tryd.prog.arrayLen 75 = 24 := by simp [Program.arrayLen, u75']
  have hsl : ∀ W, (Instr.sliceAt 75 (.pointer (some ⟨w.heap.size, 0, none⟩)) none (some (.int .i64 (Lib.nDigits u : Int))) none).run Tryd.prog W = .ok (.slice (some ⟨w.heap.size, 0, none⟩) (Lib.nDigits u) 24) W := fun W => by
    rw [run_sliceAt_array_h W 75 ⟨w.heap.size, 0, none⟩ (by simp [Program.arrayLen, Program.elem, u75']) .i64 (Lib.nDigits u : Int) (by omega) (by rw [hal]; omega)]
    go_simp
  have hH0 := Lib.holds_zero0 w 75 (Lib.nDigits u) (by omega)
  have hfmt := Tryd.internal_strconv_formatBase10 w.heap.size 0 24 u (Array.replicate (Lib.nDigits u) 0) (w.alloc (.cells Lib.zeros24 75)) hH0 (by rw [Array.size_replicate]; exact Lib.lt_pow_nDigits u) hu64 (by rw [Array.size_replicate]; omega)
  rw [Array.size_replicate] at hfmt
  have HH0 := Lib.hid hH0
  have iu : (100 : Int) ≤ (u : Int) := by omega
  have hN := Tryd.internal_strconv_numDigits u hu1 hu64 _ (Lib.tabIs_alloc htab (.cells Lib.zeros24 75))
  obtain ⟨i0, hi, hz0, hz1, hz2⟩ := i5
  clear hH0 hal
  go_enter Tryd.func41, Tryd.ntmps41
  go_wp2_with (first
    | (go_at_call 52; refine hN.mono ?_; rintro e w' ⟨rfl, rfl⟩))
  refine hfmt.mono ?_
  rintro e w' ⟨rfl, k, v', dk, rfl, hF⟩
  have hcells : ∀ j u', (Lib.byteCells (Lib.decDigits u))[j]? = some u' → ((putRow (fun (b : UInt8) => Value.int .u8 (b.toNat : Int)) (w.alloc (.cells Lib.zeros24 75)) w.heap.size 0 dk).drewN k).cell? ((⟨w.heap.size, 0, none⟩ : Addr).add j) = some u' := by
    intro j u' hj
    have hjl : j < (Lib.decDigits u).length := by
      have h5 := (List.getElem?_eq_some_iff.1 hj).1
      rwa [Lib.byteCells_length] at h5
    have e5 : (Lib.byteCells (Lib.decDigits u))[j]? = some (Value.int .u8 ((Lib.decDigits u)[j].toNat : Int)) := by simp [Lib.byteCells, hjl]
    rw [e5] at hj
    cases hj
    rw [Lib.row_is_numeral hF j hjl, Lib.add_plain, World.cell?_drewN]
    exact cell?_putRow (fun (b : UInt8) => Value.int .u8 (b.toNat : Int)) _ w.heap.size 0 _ dk HH0.out (by rw [hF.size, Array.size_replicate]) j (by rw [hF.size]; rw [Lib.decDigits_length] at hjl; exact hjl)
  obtain ⟨os, eo⟩ := Lib.fin_at w (.cells Lib.zeros24 75) dk k 0
  have hnx2 : Below w.heap.size w ((putRow (fun (b : UInt8) => Value.int .u8 (b.toNat : Int)) (w.alloc (.cells Lib.zeros24 75)) w.heap.size 0 dk).drewN k) := by rw [eo]; exact Lib.below_grow w.heap.size w (Nat.le_refl _) k os
  have hm2 := hm.below hnx2
  generalize (putRow (fun (b : UInt8) => Value.int .u8 (b.toNat : Int)) (w.alloc (.cells Lib.zeros24 75)) w.heap.size 0 dk).drewN k = W2 at hcells hm2 hnx2 ⊢
  clear eo HH0 hfmt
  obtain ⟨g, cur, fz, rfl, hg, hc⟩ := hm2
  have hpos := List.length_pos_iff.2 (digits_ne u)
  rw [Lib.decDigits_length] at hpos
  go_wp2_with (at_builtin; refine wpList_append_grows _ rfl _ _ 38 rfl 5 i0 (.int .u8 0) 1 1 u38' hi hz0 hz1 hz2 rfl (by decide) (some ⟨g, 0, none⟩) xs.length xs.length xs rfl (by intro h; cases h) (by rw [Nat.mul_one]) ?cb ⟨w.heap.size, 0, none⟩ (Lib.nDigits u) 24 (Lib.byteCells (Lib.decDigits u)) rfl ?c0 hcells ?c2 ?c3 ?c4 ?c5 ?_)
  case cb => rintro b ⟨⟩; exact Mk.cells hg hc
  case c0 => rw [Lib.byteCells_length, Lib.decDigits_length, Nat.mul_one]
  case c2 => intro u' hu'; simp only [Lib.byteCells, List.mem_map] at hu'; obtain ⟨b, _, rfl⟩ := hu'; rfl
  case c3 => omega
  case c4 => have : 1000 ≤ maxLen := by decide
             omega
  case c5 => omega
  intro v2 w3 hown' hgrow
  go_wp2
  go_ret
  have hb3 := below_grown hgrow
  refine ⟨v2, rfl, ?_, below_trans2 hnx2 hb3⟩
  rw [Lib.decDigits_length]
  exact ⟨hown'.1, hown'.2.imp id fun ⟨g, cap, cur, h1, h2, h3⟩ => ⟨g, cap, cur, h1, Nat.le_trans hnx2.size h2, h3⟩⟩
theorem apu {u : Nat} (hu64 : u < 18446744073709551616) {sv : Value} {xs : List Value} {w : World} (hm : Mk w sv xs) (hl : xs.length ≤ 100) (hT : Tabs w) :
    Calls Tryd.prog 41 #[sv, .int .u64 u, .int .i64 10] w fun e w' => ∃ v', e = .returned v' ∧ w'.ownsRow w.heap.size 5 1 v' (xs.length + (Lib.decDigits u).length) (xs ++ Lib.byteCells (Lib.decDigits u)) ∧ Below w.heap.size w w' := by
  by_cases h : u < 100
  · exact apu_small h hm hl
  · exact apu_big (by omega) hu64 hm hl hT
set_option maxHeartbeats 2000000 in
theorem api {i : Int} (h0 : 0 ≤ i) (h1 : i ≤ 1000000) {sv : Value} {xs : List Value} {w : World} (hm : Mk w sv xs) (hl : xs.length ≤ 100) (hT : Tabs w) :
    Calls Tryd.prog 28 #[sv, .int .i64 i, .int .i64 10] w fun e w' => ∃ v', e = .returned v' ∧ w'.ownsRow w.heap.size 5 1 v' (xs.length + (Lib.itoa i).length) (xs ++ Lib.byteCells (Lib.itoa i)) ∧ Below w.heap.size w w' := by
  obtain ⟨u, rfl⟩ : ∃ u : Nat, i = u := ⟨i.toNat, by omega⟩
  have hU := apu (u := u) (by omega) hm hl hT
  rw [Lib.itoa_nonneg]
  have hwr : IntKind.u64.wrap (u : Int) = (u : Int) := by rw [IntKind.wrap_u64]; omega
  go_enter Tryd.func28, Tryd.ntmps28
  go_wp2_with (go_at_call 41; refine hU.mono ?_; rintro e w2 ⟨v2, rfl, hown2, hb2⟩)
  go_wp2
  go_ret
  exact ⟨v2, rfl, hown2, hb2⟩
set_option maxHeartbeats 2000000 in
theorem apx {i : Int} (h0 : 0 ≤ i) (h1 : i ≤ 1000000) {sv : Value} {xs : List Value} {w : World} (hm : Mk w sv xs) (hl : xs.length ≤ 100) (hT : Tabs w) :
    Calls Tryd.prog 15 #[sv, .int .i64 i, .int .i64 10] w fun e w' => ∃ v', e = .returned v' ∧ w'.ownsRow w.heap.size 5 1 v' (xs.length + (Lib.itoa i).length) (xs ++ Lib.byteCells (Lib.itoa i)) ∧ Below w.heap.size w w' := by
  have hU := api h0 h1 hm hl hT
  go_enter Tryd.func15, Tryd.ntmps15
  go_wp2_with (go_at_call 28; refine hU.mono ?_; rintro e w2 ⟨v2, rfl, hown2, hb2⟩)
  go_wp2
  go_ret
  exact ⟨v2, rfl, hown2, hb2⟩
end Go.Proofs.YtdndgmcmmbjjkaaDoor.Tx

/- Print: the program's; its closure (raw walks over the kit's append). -/
namespace Go.Proofs.YtdndgmcmmbjjkaaDoor.Tx
open Go.Proofs.YtdndgmcmmbjjkaaDoor
open Go Go.Fw Go.RowKit
set_option maxRecDepth 20000
theorem own_slice {w : World} {B e sz n : Nat} {v : Value} {xs : List Value} (h : w.ownsRow B e sz v n xs) : ∃ a m c, v = .slice a m c := by
  rcases h.2 with ⟨rfl, _⟩ | ⟨g, cap, cur, rfl, _⟩ <;> exact ⟨_, _, _, rfl⟩
/-- The captured buffer: a box that holds an own row of bytes. -/
def Pb (B p : Nat) (l : List UInt8) (w : World) : Prop := ∃ sv, w.heap[p]? = some (.cells #[sv] 38 (0, 0)) ∧ w.ownsRow B 5 1 sv l.length (Lib.byteCells l) ∧ B ≤ p
theorem pb_store2 {B p : Nat} {l : List UInt8} {w : World} {sv v : Value} (hp : w.heap[p]? = some (.cells #[sv] 38 (0, 0))) (hown : w.ownsRow B 5 1 v l.length (Lib.byteCells l)) : (w.setCell ⟨p, 0, none⟩ v).heap[p]? = some (.cells #[v] 38 (0, 0)) ∧ (w.setCell ⟨p, 0, none⟩ v).ownsRow B 5 1 v l.length (Lib.byteCells l) := by
  refine ⟨?_, ownsRow_setCell_other hown ?_ v⟩
  · have h := heap_setCell_same w p 0 #[sv] 38 v hp
    simpa using h
  · rcases hown.2 with ⟨rfl, _⟩ | ⟨g, cap, cur, rfl, _, hg, _⟩
    · simp [Value.ownBlock]
    · intro e
      simp only [Value.ownBlock, Option.some.injEq] at e
      subst e
      rw [hp] at hg; cases hg
theorem pb_store {B p : Nat} {l : List UInt8} {w : World} {sv v : Value} (hp : w.heap[p]? = some (.cells #[sv] 38 (0, 0))) (hown : w.ownsRow B 5 1 v l.length (Lib.byteCells l)) (hpB : B ≤ p) : Pb B p l (w.setCell ⟨p, 0, none⟩ v) := by
  refine ⟨v, ?_, ownsRow_setCell_other hown ?_ v, hpB⟩
  · have h := heap_setCell_same w p 0 #[sv] 38 v hp
    simpa using h
  · rcases hown.2 with ⟨rfl, _⟩ | ⟨g, cap, cur, rfl, _, hg, _⟩
    · simp [Value.ownBlock]
    · intro e
      simp only [Value.ownBlock, Option.some.injEq] at e
      subst e
      rw [hp] at hg; cases hg
theorem froz_no {w : World} {p : Nat} {sv : Value} (hp : w.heap[p]? = some (.cells #[sv] 38 (0, 0))) : ¬ w.frozen? ⟨p, 0, none⟩ = true := by simp [World.frozen?, hp]
theorem cells_app (a b : List UInt8) : Lib.byteCells a ++ Lib.byteCells b = Lib.byteCells (a ++ b) := by simp [Lib.byteCells]
theorem kept_none {p : Nat} {w w2 : World} (h : Lib.OthersKept 5 none w w2) : Lib.OthersKept 5 (some p) w w2 := fun k o hk _ ho => h k o hk (by simp) ho
set_option maxHeartbeats 4000000 in
theorem num_f {B p : Nat} {l : List UInt8} {w : World} {i : Int} (hi : -9223372036854775808 ≤ i ∧ i ≤ 9223372036854775807) (hP : Pb B p l w) (hBw : B ≤ w.heap.size) (hlim : l.length ≤ 1000000)
    (htab : Lib.TabBelow Tryd.prog B w "internal/strconv.uint64pow10" .u64 Lib.pow10Tab) :
    Calls Tryd.prog 14 #[.int .i64 i, .bool false, .pointer (some ⟨p, 0, none⟩)] w fun e w' => e = .returned (.tuple #[]) ∧ Pb B p (l ++ Lib.itoa i) w' ∧ Below B w w' ∧ Lib.OthersKept 5 (some p) w w' := by
  obtain ⟨sv, hp, hown, hpB⟩ := hP
  have hpc : w.cell? ⟨p, 0, none⟩ = some sv := by simp [World.cell?, hp]
  have hA := Tryd.strconv_AppendInt_10 B l.length i hi.1 hi.2 sv (Lib.byteCells l) w hown hBw (by omega) htab
  go_enter Tryd.func14, Tryd.ntmps14
  go_wp2_with (go_at_call 15; refine hA.mono ?_)
  rintro e w2 ⟨v2, rfl, hown2, hb2, hok2⟩
  obtain ⟨a2, m2, c2, rfl⟩ := own_slice hown2
  have hp2 : w2.heap[p]? = some (.cells #[sv] 38 (0, 0)) := hok2 p _ hp (by simp) (by intro c fz h; cases h)
  have hpc2 : w2.cell? ⟨p, 0, none⟩ = some sv := by simp [World.cell?, hp2]
  have hfr := froz_no hp2
  rw [cells_app, ← List.length_append] at hown2
  go_wp2
  go_end0
  exact ⟨rfl, pb_store hp2 hown2 hpB, hb2.setCell (p := ⟨p, 0, none⟩) hpB _, (kept_none hok2).setCell ⟨p, 0, none⟩ rfl _⟩
/-- One byte appended to the buffer. -/
theorem app_own {B p : Nat} {l : List UInt8} {w w1 : World} {sv v1 : Value} {c : UInt8} (hp : w.heap[p]? = some (.cells #[sv] 38 (0, 0))) (hpB : B ≤ p) (hBw : B ≤ w.heap.size) (hown : w.ownsRow B 5 1 sv l.length (Lib.byteCells l)) (o : Obj)
    (hown1 : w1.ownsRow B 5 1 v1 (l.length + 1) (Lib.byteCells l ++ [.int .u8 c.toNat])) (hg : (w.alloc o).grownBy w1 sv.ownBlock) :
    w1.ownsRow B 5 1 v1 (l ++ [c]).length (Lib.byteCells (l ++ [c])) ∧ w1.heap[p]? = some (.cells #[sv] 38 (0, 0)) ∧ Below B w w1 ∧ Lib.OthersKept 5 (some p) w w1 := by
  have hrow : ∀ g, sv.ownBlock = some g → ∃ c fz, (w.alloc o).heap[g]? = some (.cells c 5 fz) := Lib.ownsRow_kind (hown.alloc o)
  have hok : Lib.OthersKept 5 none w w1 := ((Lib.OthersKept.refl _ _ w).alloc o).grown hg hrow
  refine ⟨?_, hok p _ hp (by simp) (by intro c fz h; cases h), ?_, kept_none hok⟩
  · rw [← cells_app, List.length_append]; exact hown1
  · exact ((Below.refl B w).alloc hBw _).grown hg (by simp; omega) fun k hk => (hown.lt k hk).1
set_option maxHeartbeats 4000000 in
theorem num_t {B p : Nat} {l : List UInt8} {w : World} {i : Int} (hi : -9223372036854775808 ≤ i ∧ i ≤ 9223372036854775807) (hP : Pb B p l w) (hBw : B ≤ w.heap.size) (hlim : l.length ≤ 1000000)
    (htab : Lib.TabBelow Tryd.prog B w "internal/strconv.uint64pow10" .u64 Lib.pow10Tab) :
    Calls Tryd.prog 14 #[.int .i64 i, .bool true, .pointer (some ⟨p, 0, none⟩)] w fun e w' => e = .returned (.tuple #[]) ∧ Pb B p (l ++ 32 :: Lib.itoa i) w' ∧ Below B w w' ∧ Lib.OthersKept 5 (some p) w w' := by
  obtain ⟨sv, hp, hown, hpB⟩ := hP
  obtain ⟨a0, m0, c0, rfl⟩ := own_slice hown
  have hpc : w.cell? ⟨p, 0, none⟩ = some (.slice a0 m0 c0) := by simp [World.cell?, hp]
  obtain ⟨i0, hi0, hz0, hz1, hz2⟩ := i5
  go_enter Tryd.func14, Tryd.ntmps14
  go_wp2_with (at_builtin; refine wpList_append_own _ rfl _ _ 38 rfl B 5 i0 (.int .u8 0) 1 1 u38' hi0 hz0 hz1 hz2 rfl (by decide) _ _ _ rfl (hown.alloc _) ⟨w.heap.size, 0, none⟩ 1 1 [Value.int .u8 32] rfl rfl ?c1 ?c2 ?c3 ?c4 ?c5 ?_)
  case c1 =>
    intro j u hj
    match j, hj with
    | 0, hj => simp at hj; subst hj; simp [Addr.add]
  case c2 => intro u hu; simp at hu; subst hu; rfl
  case c3 => unfold maxLen; omega
  case c4 => omega
  case c5 => simp; omega
  intro v1 w1 hown1 hgrow _
  obtain ⟨h1, h2, h3, h4⟩ := app_own (c := 32) hp hpB hBw hown _ hown1 hgrow
  obtain ⟨a1, m1, c1, rfl⟩ := own_slice h1
  have hfr := froz_no h2
  have hpc1 : w1.cell? ⟨p, 0, none⟩ = some (.slice a0 m0 c0) := by simp [World.cell?, h2]
  obtain ⟨hp3, hown3⟩ := pb_store2 h2 h1
  have hb2 := h3.setCell (p := ⟨p, 0, none⟩) hpB (.slice a1 m1 c1)
  have hok2 := h4.setCell ⟨p, 0, none⟩ rfl (.slice a1 m1 c1)
  have hsz : B ≤ (w1.setCell ⟨p, 0, none⟩ (.slice a1 m1 c1)).heap.size := Nat.le_trans hBw hb2.size
  have hpc3 : (w1.setCell ⟨p, 0, none⟩ (.slice a1 m1 c1)).cell? ⟨p, 0, none⟩ = some (.slice a1 m1 c1) := by simp [World.cell?, hp3]
  have hA := Tryd.strconv_AppendInt_10 B (l ++ [32]).length i hi.1 hi.2 (.slice a1 m1 c1) (Lib.byteCells (l ++ [32])) _ hown3 hsz (by rw [List.length_append, List.length_singleton]; omega) (fun w'' hb'' => htab w'' (hb2.trans hb''))
  go_wp2_with fail
  generalize w1.setCell ⟨p, 0, none⟩ (.slice a1 m1 c1) = w3 at *
  refine hA.mono ?_
  rintro e w4 ⟨v2, rfl, hown4, hb4, hok4⟩
  obtain ⟨a4, m4, c4, rfl⟩ := own_slice hown4
  have hp4 : w4.heap[p]? = some (.cells #[.slice a1 m1 c1] 38 (0, 0)) := hok4 p _ hp3 (by simp) (by intro c fz h; cases h)
  have hpc4 : w4.cell? ⟨p, 0, none⟩ = some (.slice a1 m1 c1) := by simp [World.cell?, hp4]
  have hfr4 := froz_no hp4
  rw [cells_app, ← List.length_append, List.append_assoc] at hown4
  go_wp2
  go_end0
  exact ⟨rfl, pb_store hp4 hown4 hpB, (hb2.trans hb4).setCell (p := ⟨p, 0, none⟩) hpB _, hok2.trans ((kept_none hok4).setCell ⟨p, 0, none⟩ rfl _)⟩
theorem num_calls {B p : Nat} {l : List UInt8} {w : World} {i : Int} {b : Bool} (hi : -9223372036854775808 ≤ i ∧ i ≤ 9223372036854775807) (hP : Pb B p l w) (hBw : B ≤ w.heap.size) (hlim : l.length ≤ 1000000)
    (htab : Lib.TabBelow Tryd.prog B w "internal/strconv.uint64pow10" .u64 Lib.pow10Tab) :
    Calls Tryd.prog 14 #[.int .i64 i, .bool b, .pointer (some ⟨p, 0, none⟩)] w fun e w' => e = .returned (.tuple #[]) ∧ Pb B p (l ++ (if b = true then [32] else []) ++ Lib.itoa i) w' ∧ Below B w w' ∧ Lib.OthersKept 5 (some p) w w' := by
  cases b
  · simpa using num_f hi hP hBw hlim htab
  · simpa using num_t hi hP hBw hlim htab
/-- The captured buffer while it holds the literal's bytes. -/
def Pm (B p : Nat) (l : List UInt8) (w : World) : Prop := ∃ sv, w.heap[p]? = some (.cells #[sv] 38 (0, 0)) ∧ Mk w sv (Lib.byteCells l) ∧ B ≤ p
theorem own_weak {w : World} {B B' n : Nat} {v : Value} {xs : List Value} (h : w.ownsRow B' 5 1 v n xs) (hB : B ≤ B') : w.ownsRow B 5 1 v n xs := ⟨h.1, h.2.imp id fun ⟨g, cap, cur, h1, h2, h3⟩ => ⟨g, cap, cur, h1, Nat.le_trans hB h2, h3⟩⟩
theorem below_weak {B B' : Nat} {a b : World} (h : Below B' a b) (hB : B ≤ B') : Below B a b := ⟨h.os, h.tape, h.output, h.size, fun k hk => h.block k (Nat.lt_of_lt_of_le hk hB)⟩
theorem kept_below {w w' : World} (h : Below w.heap.size w w') : Lib.OthersKept 5 none w w' := fun k o hk _ _ => by rw [h.block k (Array.getElem?_eq_some_iff.1 hk).1]; exact hk
set_option maxHeartbeats 4000000 in
theorem num_m {B p : Nat} {l : List UInt8} {w : World} {i : Int} (hi : 0 ≤ i ∧ i ≤ 1000000) (hP : Pm B p l w) (hBw : B ≤ w.heap.size) (hlim : l.length ≤ 100) (hT : Tabs w) :
    Calls Tryd.prog 14 #[.int .i64 i, .bool false, .pointer (some ⟨p, 0, none⟩)] w fun e w' => e = .returned (.tuple #[]) ∧ Pb B p (l ++ Lib.itoa i) w' ∧ Below B w w' ∧ Lib.OthersKept 5 (some p) w w' := by
  obtain ⟨sv, hp, hm, hpB⟩ := hP
  have hpc : w.cell? ⟨p, 0, none⟩ = some sv := by simp [World.cell?, hp]
  have hA := apx hi.1 hi.2 hm (by rw [Lib.byteCells_length]; exact hlim) hT
  go_enter Tryd.func14, Tryd.ntmps14
  go_wp2_with (go_at_call 15; refine hA.mono ?_)
  rintro e w2 ⟨v2, rfl, hown2, hb2⟩
  obtain ⟨a2, m2, c2, rfl⟩ := own_slice hown2
  have hp2 : w2.heap[p]? = some (.cells #[sv] 38 (0, 0)) := by rw [hb2.block _ (Array.getElem?_eq_some_iff.1 hp).1]; exact hp
  have hpc2 : w2.cell? ⟨p, 0, none⟩ = some sv := by simp [World.cell?, hp2]
  have hfr := froz_no hp2
  rw [cells_app, Lib.byteCells_length, ← List.length_append] at hown2
  go_wp2
  go_end0
  exact ⟨rfl, pb_store hp2 (own_weak hown2 hBw) hpB, (below_weak hb2 hBw).setCell (p := ⟨p, 0, none⟩) hpB _, (kept_none (kept_below hb2)).setCell ⟨p, 0, none⟩ rfl _⟩
section
variable {ops : Array Oper} {rest : List Oper} {o : Oper} {a : Act} {Q : Exit → Act → World → Prop}
/-- One byte appended, to an own row or to a literal's. -/
theorem wpl_app (w : World) {B : Nat} (hgd : o.guard = none) (s x : Operand) (ho : o.op = .call { callee := .builtin .append, args := #[s, x], argTypes := #[38, 38] })
    (sv : Value) (l : List UInt8) (hs : a.eval s = sv) (hq : Mk w sv (Lib.byteCells l) ∨ w.ownsRow B 5 1 sv l.length (Lib.byteCells l)) (hBw : B ≤ w.heap.size) (hl : l.length ≤ 1000000) (g : Nat) (c : UInt8)
    (hx : a.eval x = .slice (some ⟨g, 0, none⟩) 1 1) (hc : w.cell? ⟨g, 0, none⟩ = some (.int .u8 c.toNat))
    (h : ∀ v' w', w'.ownsRow B 5 1 v' (l ++ [c]).length (Lib.byteCells (l ++ [c])) → Below B w w' → Lib.OthersKept 5 none w w' → wpList Tryd.prog ops Q rest (a.put o.dst v') w') : wpList Tryd.prog ops Q (o :: rest) a w := by
  obtain ⟨i0, hi0, hz0, hz1, hz2⟩ := i5
  have hmx : 2000000 ≤ maxLen := by decide
  have c1 : ∀ j u, [Value.int .u8 c.toNat][j]? = some u → w.cell? ((⟨g, 0, none⟩ : Addr).add j) = some u := by
    intro j u hj
    match j, hj with
    | 0, hj => simp at hj; subst hj; simpa [Addr.add] using hc
  have c2 : ∀ u ∈ [Value.int .u8 c.toNat], u.oneCell' = true := by intro u hu; simp at hu; subst hu; rfl
  have e1 : Lib.byteCells l ++ [Value.int .u8 c.toNat] = Lib.byteCells (l ++ [c]) := by rw [← cells_app]; rfl
  rcases hq with ⟨g0, cur, fz, rfl, hg, hcx⟩ | hown
  · refine wpList_append_grows _ hgd s x 38 ho 5 i0 (.int .u8 0) 1 1 u38' hi0 hz0 hz1 hz2 rfl (by decide) (some ⟨g0, 0, none⟩) _ _ (Lib.byteCells l) hs (by intro h; cases h) (by rw [Nat.mul_one]) (by rintro b ⟨⟩; exact Mk.cells hg hcx) ⟨g, 0, none⟩ 1 1 [Value.int .u8 c.toNat] hx rfl c1 c2 (by omega) (by rw [Lib.byteCells_length]; omega) (by rw [Lib.byteCells_length]; omega) fun v' w' h1 h2 => ?_
    have hb := below_grown h2
    rw [e1, Lib.byteCells_length] at h1
    exact h v' w' (by rw [List.length_append]; exact own_weak h1 hBw) (below_weak hb hBw) (kept_below hb)
  · refine wpList_append_own _ hgd s x 38 ho B 5 i0 (.int .u8 0) 1 1 u38' hi0 hz0 hz1 hz2 rfl (by decide) sv l.length (Lib.byteCells l) hs hown ⟨g, 0, none⟩ 1 1 [Value.int .u8 c.toNat] hx rfl c1 c2 (by omega) (by omega) hBw fun v' w' h1 h2 _ => ?_
    rw [e1] at h1
    exact h v' w' (by rw [List.length_append]; exact h1) ((Below.refl B w).grown h2 hBw fun k hk => (hown.lt k hk).1) ((Lib.OthersKept.refl _ _ w).grown h2 (Lib.ownsRow_kind hown))
end
/-- The parts of an array's value. -/
structure ArrAt (C : Nat → Nat → Option Value) (a : Arr) (v : Value) where
  a1 : Option Addr
  c1 : Nat
  a2 : Option Addr
  c2 : Nat
  v : v = .agg #[.string a.e, .slice a1 a.d.length c1, .slice a2 a.x.length c2]
  l1 : a.d.length ≤ c1
  l2 : a.x.length ≤ c2
  m1 : c1 ≤ maxLen
  m2 : c2 ≤ maxLen
  d : ∀ n, n < a.d.length → ∃ b off, a1 = some ⟨b, off, none⟩ ∧ C b (off + n) = some (.int .i64 (a.d.getD n 0))
  x : ∀ n, n < a.x.length → ∃ b off, a2 = some ⟨b, off, none⟩ ∧ C b (off + n) = some (.int .i64 (a.x.getD n 0))
theorem ints_at {C : Nat → Nat → Option Value} {l : List Int} {v : Value} (h : RC C (.sl false 1 (ints .i64 l)) v) : ∃ a c, v = .slice a l.length c ∧ l.length ≤ c ∧ c ≤ maxLen ∧ ∀ n, n < l.length → ∃ b off, a = some ⟨b, off, none⟩ ∧ C b (off + n) = some (.int .i64 (l.getD n 0)) := by
  generalize hX : ints .i64 l = X at h
  cases h with
  | nil full sz p =>
    have : l = [] := by
      cases l with
      | nil => rfl
      | cons x l => cases hX
    subst this
    exact ⟨p, 0, rfl, Nat.le_refl _, Nat.zero_le _, fun n hn => by simp at hn⟩
  | sl full sz X b off cap f hc hm hf hw hC h1 hR =>
    subst hX
    have hlen : (ints .i64 l).length = l.length := by simp [ints]
    have hfl : flat (ints .i64 l) = ints .i64 l := flat_lits (fun n => .int .i64 n) l
    rw [hfl, hlen] at hC hR
    refine ⟨some ⟨b, off, none⟩, cap, by rw [hlen], by omega, hm, fun n hn => ⟨b, off, rfl, ?_⟩⟩
    have hr := hR n hn
    have e : (ints .i64 l).getD n .top = .lit (.int .i64 (l.getD n 0)) := by
      simp [ints, List.getD_eq_getElem?_getD, List.getElem?_map, List.getElem?_eq_getElem hn]
    rw [e] at hr
    rw [hC n hn, rc_lit hr]
theorem arr_at {C : Nat → Nat → Option Value} {a : Arr} {v : Value} (h : RC C (arrV a) v) : Nonempty (ArrAt C a v) := by
  unfold arrV at h
  generalize hX : AV.agg [.lit (.string a.e), .sl false 1 (ints .i64 a.d), .sl false 1 (ints .i64 a.x)] = X at h
  cases h with
  | agg xs vs hl h1 h =>
    cases hX
    match vs, hl with
    | [u, p, q], _ =>
      have hu : RC C (.lit (.string a.e)) u := h 0 (by simp)
      have hp : RC C (.sl false 1 (ints .i64 a.d)) p := h 1 (by simp)
      have hq : RC C (.sl false 1 (ints .i64 a.x)) q := h 2 (by simp)
      rw [rc_lit hu]
      obtain ⟨a1, c1, rfl, l1, m1, d1⟩ := ints_at hp
      obtain ⟨a2, c2, rfl, l2, m2, d2⟩ := ints_at hq
      exact ⟨⟨a1, c1, a2, c2, rfl, l1, l2, m1, m2, d1, d2⟩⟩
  | _ => cases hX
end Go.Proofs.YtdndgmcmmbjjkaaDoor.Tx

/- Print: the program's. -/
namespace Go.Proofs.YtdndgmcmmbjjkaaDoor.Tx
open Go.Proofs.YtdndgmcmmbjjkaaDoor
open Go Go.Fw Go.RowKit
set_option maxRecDepth 20000
theorem val_calls {C : Nat → Nat → Option Value} {a : Arr} {v : Value} {w w1 : World} (hv : RC C (arrV a) v) (hin : inW C w) (hb : Below w.heap.size w w1) (h1 : a.d.length ≤ 1000000) (h2 : a.x.length ≤ 1000000) :
    Calls Tryd.prog 13 #[v] w1 fun e w' => e = .returned (.bool (ofE a == 0)) ∧ Below w1.heap.size w1 w' := by
  have hm := More.of_below hb
  refine (valid_pc h1 h2 C w1 [v] ⟨rfl, fun i hi => ?_⟩ ⟨fun k o u hu => hm.cell (hin.1 k o u hu), hin.2.up hm.block⟩).mono ?_
  · match i, hi with
    | 0, _ => exact hv
  · rintro e w' ⟨u, C', rfl, _, h2, _, h4, _⟩
    rw [rc_lit h2]; exact ⟨rfl, h4.below⟩
theorem push_at (w : World) (o : Obj) : (w.alloc o).heap[w.heap.size]? = some o := by
  show (w.heap.push o)[w.heap.size]? = _
  rw [Array.getElem?_push, if_pos rfl]
set_option maxHeartbeats 1000000 in
theorem print_bad {C : Nat → Nat → Option Value} {a : Arr} {v : Value} {w : World} (hv : RC C (arrV a) v) (hin : inW C w) (h1 : a.d.length ≤ 1000000) (h2 : a.x.length ≤ 1000000) (h0 : ofE a ≠ 0) :
    Calls Tryd.prog 6 #[v] w fun e w' => e = .returned (.tuple #[.string (bs []), .int .i64 1]) ∧ Below w.heap.size w w' := by
  obtain ⟨⟨a1, c1, a2, c2, rfl, l1, l2, m1, m2, hd, hx⟩⟩ := arr_at hv
  have b0 : Below w.heap.size w (w.alloc (.cells #[.string a.e, .slice a1 a.d.length c1, .slice a2 a.x.length c2] 24)) := (Below.refl _ w).alloc (Nat.le_refl _) _
  have hV := val_calls hv hin b0 h1 h2
  rw [show (ofE a == 0) = false by simpa using h0] at hV
  go_enter Tryd.func6, Tryd.ntmps6
  go_wp2_with (go_at_call 13; refine hV.mono ?_)
  rintro e w2 ⟨rfl, b2⟩
  go_wp2
  go_ret2
  exact ⟨rfl, below_trans2 b0 b2⟩
theorem conv38 (w : World) (C : Array Value) (n c : Nat) : (convert 38 38 (.slice (some ⟨w.heap.size, 0, none⟩) n c)).run Tryd.prog (w.alloc (.cells C 5)) = .ok (.slice (some ⟨w.heap.size, 0, none⟩) n c) (w.alloc (.cells C 5 (C.size, C.size + 1))) := Lib.run_convert_bytes_const (P := Tryd.prog) w 38 5 C n c u38' (by kernel_rfl)
theorem bc_at {l : List UInt8} {j : Nat} (h : j < l.length) : (Lib.byteCells l)[j]? = some (.int .u8 l[j].toNat) := by simp [Lib.byteCells, h]
theorem arr_box {w w' : World} {A p : Nat} {o : Obj} (h : w.heap[A]? = some o) (hk : Lib.OthersKept 5 (some p) w w') (hne : A ≠ p) (ho : ∀ c fz, o ≠ .cells c 5 fz) : w'.heap[A]? = some o := hk A o h (by simp [hne]) ho
theorem box_cells {w : World} {A : Nat} {x y z : Value} (h : w.heap[A]? = some (.cells #[x, y, z] 24 (0, 0))) : w.cell? ⟨A, 0, none⟩ = some x ∧ w.cell? ⟨A, 1, none⟩ = some y ∧ w.cell? ⟨A, 2, none⟩ = some z := by simp [World.cell?, h]
set_option maxHeartbeats 4000000 in
theorem print_int {C : Nat → Nat → Option Value} {a : Arr} {v : Value} {w : World} (hv : RC C (arrV a) v) (hin : inW C w) (h0 : ofE a = 0) (he : a.e = sInt) :
    Calls Tryd.prog 6 #[v] w fun e w' => e = .returned (.tuple #[.string (bs (textA a)), .int .i64 0]) ∧ Below w.heap.size w w' := by
  have hs := sm_of h0
  have htx := text_len hs
  have hcmp : (a.e.toList == [98, 111, 111, 108]) = false := by rw [he]; kernel_rfl
  have hH : headB a.e = [35, 91] := by unfold headB; rw [he]; rfl
  obtain ⟨⟨a1, c1, a2, c2, rfl, l1, l2, m1, m2, hd, hx⟩⟩ := arr_at hv
  have b0 : Below w.heap.size w (w.alloc (.cells #[.string a.e, .slice a1 a.d.length c1, .slice a2 a.x.length c2] 24)) := (Below.refl _ w).alloc (Nat.le_refl _) _
  have hV := val_calls hv hin b0 (by have := hs.dl; omega) (by have := hs.xl; omega)
  rw [show (ofE a == 0) = true by rw [h0]; rfl] at hV
  have hbx := push_at w (.cells #[.string a.e, .slice a1 a.d.length c1, .slice a2 a.x.length c2] 24)
  have hcv := conv38
  have hxs := hs.x
  have hds := hs.d
  have hdl := hs.dl
  have hxl := hs.xl
  have hR : textA a = xT (dT [35, 91] a.d a.d.length ++ [58]) a.x a.x.length ++ [93] := by rw [← hH]; simp [textA, dT, xT]
  rw [hR] at htx ⊢
  clear he h0 hs hH hR
  have hT := tabs_in hin
  go_enter Tryd.func6, Tryd.ntmps6
  go_wp2_with (go_at_call 13; refine hV.mono ?_)
  rintro e w2 ⟨rfl, b2⟩
  have hb2 := below_trans2 b0 b2
  have hsz2 := hb2.size
  have hbx2 : w2.heap[w.heap.size]? = some (.cells #[.string a.e, .slice a1 a.d.length c1, .slice a2 a.x.length c2] 24 (0, 0)) := by
    rw [b2.block _ (Array.getElem?_eq_some_iff.1 hbx).1]; exact hbx
  have hlt2 := (Array.getElem?_eq_some_iff.1 hbx2).1
  obtain ⟨f0, f1, f2⟩ := box_cells hbx2
  have f0' := Lib.cell?_alloc_marked (Obj.cells #[Value.slice (some ⟨w2.heap.size, 0, none⟩) 2 2] 38) (Lib.cell?_alloc_marked (Obj.cells #[Value.int .u8 35, Value.int .u8 91] 5 (2, 3)) f0)
  have f1' := Lib.cell?_alloc_marked (Obj.cells #[Value.slice (some ⟨w2.heap.size, 0, none⟩) 2 2] 38) (Lib.cell?_alloc_marked (Obj.cells #[Value.int .u8 35, Value.int .u8 91] 5 (2, 3)) f1)
  go_wp2
  have hb3 : Below w.heap.size w ((w2.alloc (Obj.cells #[Value.int .u8 35, Value.int .u8 91] 5 (2, 3))).alloc (Obj.cells #[Value.slice (some ⟨w2.heap.size, 0, none⟩) 2 2] 38)) := (hb2.alloc hsz2 _).alloc (by simp; omega) _
  have hk3 : ((w2.alloc (Obj.cells #[Value.int .u8 35, Value.int .u8 91] 5 (2, 3))).alloc (Obj.cells #[Value.slice (some ⟨w2.heap.size, 0, none⟩) 2 2] 38)).heap[w2.heap.size]? = some (Obj.cells #[Value.int .u8 35, Value.int .u8 91] 5 (2, 3)) := by
    show ((w2.heap.push _).push _)[w2.heap.size]? = _
    rw [Array.getElem?_push, if_neg (by simp), Array.getElem?_push, if_pos rfl]
  have hp3 : ((w2.alloc (Obj.cells #[Value.int .u8 35, Value.int .u8 91] 5 (2, 3))).alloc (Obj.cells #[Value.slice (some ⟨w2.heap.size, 0, none⟩) 2 2] 38)).heap[w2.heap.size + 1]? = some (Obj.cells #[Value.slice (some ⟨w2.heap.size, 0, none⟩) 2 2] 38) := by
    show ((w2.heap.push _).push _)[w2.heap.size + 1]? = _
    rw [Array.getElem?_push, if_pos (by simp)]
  have hbx3 : ((w2.alloc (Obj.cells #[Value.int .u8 35, Value.int .u8 91] 5 (2, 3))).alloc (Obj.cells #[Value.slice (some ⟨w2.heap.size, 0, none⟩) 2 2] 38)).heap[w.heap.size]? = some (.cells #[.string a.e, .slice a1 a.d.length c1, .slice a2 a.x.length c2] 24 (0, 0)) := by
    show ((w2.heap.push _).push _)[w.heap.size]? = _
    rw [Array.getElem?_push, if_neg (by simp; omega), Array.getElem?_push, if_neg (by omega)]; exact hbx2
  have hPm : Pm w.heap.size (w2.heap.size + 1) [35, 91] ((w2.alloc (Obj.cells #[Value.int .u8 35, Value.int .u8 91] 5 (2, 3))).alloc (Obj.cells #[Value.slice (some ⟨w2.heap.size, 0, none⟩) 2 2] 38)) := ⟨_, hp3, ⟨w2.heap.size, _, _, rfl, hk3, rfl⟩, by omega⟩
  go_loopw [22] (fun i wr => ∃ n : Nat, n ≤ a.d.length ∧ i = .int .i64 n ∧ ((n = 0 ∧ Pm w.heap.size (w2.heap.size + 1) [35, 91] wr) ∨ Pb w.heap.size (w2.heap.size + 1) (dT [35, 91] a.d n) wr) ∧ wr.heap[w.heap.size]? = some (.cells #[.string a.e, .slice a1 a.d.length c1, .slice a2 a.x.length c2] 24 (0, 0)) ∧ Below w.heap.size w wr) (fun i _ => a.d.length - (intOf i).toNat)
  case atStart => exact ⟨0, by omega, rfl, .inl ⟨rfl, hPm⟩, hbx3, hb3⟩
  case round =>
    obtain ⟨n, hn, rfl, hP, hbr, hb⟩ := hrel
    clear hPm hk3 hp3 hbx3 hb3 f0 f1 f2 f0' f1'
    obtain ⟨f0, f1, f2⟩ := box_cells hbr
    have hszr := hb.size
    have hTr := tabs_up hT hb
    by_cases hlt : n < a.d.length
    · obtain ⟨bk, off, rfl, e0⟩ := hd n hlt
      have hm := More.of_below hb
      have d0 := hm.cell (hin.1 _ _ _ e0)
      have hdn := hds _ (getD_mem' hlt)
      have hsu := dT_succ (H := [35, 91]) hlt
      have hTl := dT_len (H := [35, 91]) hdl hds (by simp) n
      generalize a.d.getD n 0 = x at *
      have hN : Calls Tryd.prog 14 #[.int .i64 x, .bool (decide (0 < n)), .pointer (some ⟨w2.heap.size + 1, 0, none⟩)] wr fun e w' => e = .returned (.tuple #[]) ∧ Pb w.heap.size (w2.heap.size + 1) (dT [35, 91] a.d (n + 1)) w' ∧ Below w.heap.size wr w' ∧ Lib.OthersKept 5 (some (w2.heap.size + 1)) wr w' := by
        rw [hsu]
        rcases hP with ⟨rfl, hP⟩ | hP
        · have h := num_m (i := x) (by omega) hP hszr (by simp) hTr
          simpa [dT0] using h
        · have h := num_calls (i := x) (b := decide (0 < n)) (by omega) hP hszr (by omega) (fun w'' hb'' => (tabs_up hT (hb.trans hb'')).pow)
          simpa only [decide_eq_true_eq] using h
      go_wp2_with (go_at_call 14; refine hN.mono ?_)
      rintro e w4 ⟨rfl, h4, b4, k4⟩
      have hbx4 := arr_box hbr k4 (by omega) (by intro c fz h; cases h)
      have hbb := hb.trans b4
      go_wp2
      go_roundw
      case rel => exact ⟨n + 1, by omega, by go_num, .inr h4, hbx4, hbb⟩
      case measure => simp [intOf]; omega
    · have hnl : n = a.d.length := by omega
      subst hnl
      have hq : ∃ sv, wr.heap[w2.heap.size + 1]? = some (.cells #[sv] 38 (0, 0)) ∧ (Mk wr sv (Lib.byteCells (dT [35, 91] a.d a.d.length)) ∨ wr.ownsRow w.heap.size 5 1 sv (dT [35, 91] a.d a.d.length).length (Lib.byteCells (dT [35, 91] a.d a.d.length))) := by
        rcases hP with ⟨h0, sv, h1, h2, h3⟩ | ⟨sv, h1, h2, h3⟩
        · exact ⟨sv, h1, .inl (by rw [h0, dT0]; exact h2)⟩
        · exact ⟨sv, h1, .inr h2⟩
      obtain ⟨sv, hp, hq⟩ := hq
      have hTl := dT_len (H := [35, 91]) hdl hds (by simp) a.d.length
      generalize hTq : dT [35, 91] a.d a.d.length = T at *
      clear hP
      have hpc : wr.cell? ⟨w2.heap.size + 1, 0, none⟩ = some sv := by simp [World.cell?, hp]
      have hq2 : Mk (wr.alloc (.cells #[.int .u8 58] 5)) sv (Lib.byteCells T) ∨ (wr.alloc (.cells #[.int .u8 58] 5)).ownsRow w.heap.size 5 1 sv T.length (Lib.byteCells T) := hq.imp (fun h => h.below ((Below.refl _ wr).alloc (Nat.le_refl _) _)) (fun h => h.alloc _)
      have hba : Below w.heap.size w (wr.alloc (.cells #[.int .u8 58] 5)) := hb.alloc hszr _
      have hka : Lib.OthersKept 5 none wr (wr.alloc (.cells #[.int .u8 58] 5)) := (Lib.OthersKept.refl _ _ wr).alloc _
      have hsa : w.heap.size ≤ (wr.alloc (.cells #[.int .u8 58] 5)).heap.size := hba.size
      go_wp2_with (at_builtin; refine wpl_app _ rfl _ _ rfl sv T rfl hq2 hsa (by omega) wr.heap.size 58 rfl ?c1 ?c2)
      case c1 => have h := push_at wr (.cells #[.int .u8 58] 5)
                 simp only [World.cell?, h]; rfl
      intro v5 w5 hown5 hb5 hk5
      have hk5' := hka.trans hk5
      have hp5 : w5.heap[w2.heap.size + 1]? = some (.cells #[sv] 38 (0, 0)) := hk5' _ _ hp (by simp) (by intro c fz h; cases h)
      have hbx5 : w5.heap[w.heap.size]? = some (.cells #[.string a.e, .slice a1 a.d.length c1, .slice a2 a.x.length c2] 24 (0, 0)) := hk5' _ _ hbr (by simp) (by intro c fz h; cases h)
      obtain ⟨a5, m5, c5, rfl⟩ := own_slice hown5
      have hown5 : w5.ownsRow w.heap.size 5 1 (.slice a5 m5 c5) (T ++ [58]).length (Lib.byteCells (T ++ [58])) := by rw [List.length_append]; exact hown5
      have hfr5 := froz_no hp5
      have hpc5 : w5.cell? ⟨w2.heap.size + 1, 0, none⟩ = some sv := by simp [World.cell?, hp5]
      have hP6 := pb_store hp5 hown5 (show w.heap.size ≤ w2.heap.size + 1 by omega)
      have hb6 := (hba.trans hb5).setCell (p := ⟨w2.heap.size + 1, 0, none⟩) (show w.heap.size ≤ w2.heap.size + 1 by omega) (.slice a5 m5 c5)
      have hbx6 : (w5.setCell ⟨w2.heap.size + 1, 0, none⟩ (.slice a5 m5 c5)).heap[w.heap.size]? = some (.cells #[.string a.e, .slice a1 a.d.length c1, .slice a2 a.x.length c2] 24 (0, 0)) := by
        rw [Below.heap_setCell _ _ _ _ (by simp; omega)]; exact hbx5
      obtain ⟨e0, e1, e2⟩ := box_cells hbx6
      go_wp2
      have hG : (T ++ [58]).length ≤ 1000 := by simp only [List.length_append, List.length_singleton]; omega
      generalize hGq : T ++ [58] = G at *
      clear hp hq hq2 hba hka hsa hown5 hb5 hk5 hk5' hp5 hbx5 hfr5 hpc5 hbr hb f0 f1 f2 hpc hTr hszr
      go_loopw [41] (fun i wr => ∃ n : Nat, n ≤ a.x.length ∧ i = .int .i64 n ∧ Pb w.heap.size (w2.heap.size + 1) (xT G a.x n) wr ∧ wr.heap[w.heap.size]? = some (.cells #[.string a.e, .slice a1 a.d.length c1, .slice a2 a.x.length c2] 24 (0, 0)) ∧ Below w.heap.size w wr) (fun i _ => a.x.length - (intOf i).toNat)
      case atStart => exact ⟨0, by omega, rfl, by rw [xT0]; exact hP6, hbx6, hb6⟩
      case round =>
        obtain ⟨n, hn, rfl, hP, hbr, hb⟩ := hrel
        clear hP6 hbx6 hb6 e0 e1 e2
        obtain ⟨f0, f1, f2⟩ := box_cells hbr
        have hszr := hb.size
        have hTr := tabs_up hT hb
        have hTl := xT_len hxl hxs hG n
        by_cases hlt : n < a.x.length
        · obtain ⟨bk, off, rfl, e0⟩ := hx n hlt
          have hm := More.of_below hb
          have d0 := hm.cell (hin.1 _ _ _ e0)
          have hdn := hxs _ (getD_mem' hlt)
          have hsu := xT_succ (H := G) hlt
          generalize a.x.getD n 0 = x at *
          have hN : Calls Tryd.prog 14 #[.int .i64 x, .bool true, .pointer (some ⟨w2.heap.size + 1, 0, none⟩)] wr fun e w' => e = .returned (.tuple #[]) ∧ Pb w.heap.size (w2.heap.size + 1) (xT G a.x (n + 1)) w' ∧ Below w.heap.size wr w' ∧ Lib.OthersKept 5 (some (w2.heap.size + 1)) wr w' := by
            rw [hsu]
            exact num_t (i := x) (by omega) hP hszr (by omega) (fun w'' hb'' => (tabs_up hT (hb.trans hb'')).pow)
          go_wp2_with (go_at_call 14; refine hN.mono ?_)
          rintro e w4 ⟨rfl, h4, b4, k4⟩
          have hbx4 := arr_box hbr k4 (by omega) (by intro c fz h; cases h)
          have hbb := hb.trans b4
          go_wp2
          go_roundw
          case rel => exact ⟨n + 1, by omega, by go_num, h4, hbx4, hbb⟩
          case measure => simp [intOf]; omega
        · have hnl : n = a.x.length := by omega
          subst hnl
          obtain ⟨sv, hp, hq, hpB⟩ := hP
          generalize hT2q : xT G a.x a.x.length = T2 at *
          have hpc : wr.cell? ⟨w2.heap.size + 1, 0, none⟩ = some sv := by simp [World.cell?, hp]
          have hq2 : Mk (wr.alloc (.cells #[.int .u8 93] 5)) sv (Lib.byteCells T2) ∨ (wr.alloc (.cells #[.int .u8 93] 5)).ownsRow w.heap.size 5 1 sv T2.length (Lib.byteCells T2) := .inr (hq.alloc _)
          have hba : Below w.heap.size w (wr.alloc (.cells #[.int .u8 93] 5)) := hb.alloc hszr _
          have hsa : w.heap.size ≤ (wr.alloc (.cells #[.int .u8 93] 5)).heap.size := hba.size
          go_wp2_with (at_builtin; refine wpl_app _ rfl _ _ rfl sv T2 rfl hq2 hsa (by omega) wr.heap.size 93 rfl ?d1 ?d2)
          case d1 => have h := push_at wr (.cells #[.int .u8 93] 5)
                     simp only [World.cell?, h]; rfl
          intro v5 w5 hown5 hb5 hk5
          have hown5 : w5.ownsRow w.heap.size 5 1 v5 (T2 ++ [93]).length (Lib.byteCells (T2 ++ [93])) := by rw [List.length_append]; exact hown5
          have hcs : ∃ g cap, v5 = .slice (some ⟨g, 0, none⟩) (T2 ++ [93]).length cap := by
            rcases hown5.2 with ⟨_, h⟩ | ⟨g, cap, cur, rfl, _⟩
            · simp at h
            · exact ⟨g, cap, rfl⟩
          obtain ⟨g, cap, rfl⟩ := hcs
          have hcl := hown5.cells (g := g) rfl
          have hct := run_convert_bytes_back (P := Tryd.prog) w5 38 9 5 ⟨g, 0, none⟩ cap (T2 ++ [93]) u38' (by kernel_rfl) u9' (fun j hj => hcl j _ (bc_at hj))
          have hbe := hba.trans hb5
          generalize hT3q : T2 ++ [93] = T3 at *
          go_wp2
          go_ret2
          subst hT3q hT2q hGq hTq
          exact ⟨rfl, hbe⟩
end Go.Proofs.YtdndgmcmmbjjkaaDoor.Tx

/- Print: the program's, of Booleans. -/
namespace Go.Proofs.YtdndgmcmmbjjkaaDoor.Tx
open Go.Proofs.YtdndgmcmmbjjkaaDoor
open Go Go.Fw Go.RowKit
set_option maxRecDepth 20000
set_option maxHeartbeats 4000000 in
theorem print_bool {C : Nat → Nat → Option Value} {a : Arr} {v : Value} {w : World} (hv : RC C (arrV a) v) (hin : inW C w) (h0 : ofE a = 0) (he : a.e = sBool) :
    Calls Tryd.prog 6 #[v] w fun e w' => e = .returned (.tuple #[.string (bs (textA a)), .int .i64 0]) ∧ Below w.heap.size w w' := by
  have hs := sm_of h0
  have htx := text_len hs
  have hcmp : (a.e.toList == [98, 111, 111, 108]) = true := by rw [he]; kernel_rfl
  have hH : headB a.e = [35, 98, 91] := by unfold headB; rw [he]; rfl
  obtain ⟨⟨a1, c1, a2, c2, rfl, l1, l2, m1, m2, hd, hx⟩⟩ := arr_at hv
  have b0 : Below w.heap.size w (w.alloc (.cells #[.string a.e, .slice a1 a.d.length c1, .slice a2 a.x.length c2] 24)) := (Below.refl _ w).alloc (Nat.le_refl _) _
  have hV := val_calls hv hin b0 (by have := hs.dl; omega) (by have := hs.xl; omega)
  rw [show (ofE a == 0) = true by rw [h0]; rfl] at hV
  have hbx := push_at w (.cells #[.string a.e, .slice a1 a.d.length c1, .slice a2 a.x.length c2] 24)
  have hcv := conv38
  have hxs := hs.x
  have hds := hs.d
  have hdl := hs.dl
  have hxl := hs.xl
  have hR : textA a = xT (dT [35, 98, 91] a.d a.d.length ++ [58]) a.x a.x.length ++ [93] := by rw [← hH]; simp [textA, dT, xT]
  rw [hR] at htx ⊢
  clear he h0 hs hH hR
  have hT := tabs_in hin
  go_enter Tryd.func6, Tryd.ntmps6
  go_wp2_with (go_at_call 13; refine hV.mono ?_)
  rintro e w2 ⟨rfl, b2⟩
  have hb2 := below_trans2 b0 b2
  have hsz2 := hb2.size
  have hbx2 : w2.heap[w.heap.size]? = some (.cells #[.string a.e, .slice a1 a.d.length c1, .slice a2 a.x.length c2] 24 (0, 0)) := by
    rw [b2.block _ (Array.getElem?_eq_some_iff.1 hbx).1]; exact hbx
  have hlt2 := (Array.getElem?_eq_some_iff.1 hbx2).1
  obtain ⟨f0, f1, f2⟩ := box_cells hbx2
  have f0' := Lib.cell?_alloc_marked (Obj.cells #[Value.slice (some ⟨w2.heap.size, 0, none⟩) 2 2] 38) (Lib.cell?_alloc_marked (Obj.cells #[Value.int .u8 35, Value.int .u8 91] 5 (2, 3)) f0)
  have f1' := Lib.cell?_alloc_marked (Obj.cells #[Value.slice (some ⟨w2.heap.size, 0, none⟩) 2 2] 38) (Lib.cell?_alloc_marked (Obj.cells #[Value.int .u8 35, Value.int .u8 91] 5 (2, 3)) f1)
  have hcv2 : Sem.run Tryd.prog (convert 38 38 (.slice (some ⟨w2.heap.size + 1 + 1, 0, none⟩) 3 3)) (((w2.alloc (Obj.cells #[Value.int .u8 35, Value.int .u8 91] 5 (2, 3))).alloc (Obj.cells #[Value.slice (some ⟨w2.heap.size, 0, none⟩) 2 2] 38)).alloc (Obj.cells #[Value.int .u8 35, Value.int .u8 98, Value.int .u8 91] 5)) = .ok (.slice (some ⟨w2.heap.size + 1 + 1, 0, none⟩) 3 3) (((w2.alloc (Obj.cells #[Value.int .u8 35, Value.int .u8 91] 5 (2, 3))).alloc (Obj.cells #[Value.slice (some ⟨w2.heap.size, 0, none⟩) 2 2] 38)).alloc (Obj.cells #[Value.int .u8 35, Value.int .u8 98, Value.int .u8 91] 5 (3, 4))) := by
    have h := conv38 ((w2.alloc (Obj.cells #[Value.int .u8 35, Value.int .u8 91] 5 (2, 3))).alloc (Obj.cells #[Value.slice (some ⟨w2.heap.size, 0, none⟩) 2 2] 38)) #[Value.int .u8 35, Value.int .u8 98, Value.int .u8 91] 3 3
    simpa using h
  have hp4 : (((w2.alloc (Obj.cells #[Value.int .u8 35, Value.int .u8 91] 5 (2, 3))).alloc (Obj.cells #[Value.slice (some ⟨w2.heap.size, 0, none⟩) 2 2] 38)).alloc (Obj.cells #[Value.int .u8 35, Value.int .u8 98, Value.int .u8 91] 5 (3, 4))).heap[w2.heap.size + 1]? = some (Obj.cells #[Value.slice (some ⟨w2.heap.size, 0, none⟩) 2 2] 38) := by
    show (((w2.heap.push _).push _).push _)[w2.heap.size + 1]? = _
    rw [Array.getElem?_push, if_neg (by simp), Array.getElem?_push, if_pos (by simp)]
  have hk4 : (((w2.alloc (Obj.cells #[Value.int .u8 35, Value.int .u8 91] 5 (2, 3))).alloc (Obj.cells #[Value.slice (some ⟨w2.heap.size, 0, none⟩) 2 2] 38)).alloc (Obj.cells #[Value.int .u8 35, Value.int .u8 98, Value.int .u8 91] 5 (3, 4))).heap[w2.heap.size + 1 + 1]? = some (Obj.cells #[Value.int .u8 35, Value.int .u8 98, Value.int .u8 91] 5 (3, 4)) := by
    show (((w2.heap.push _).push _).push _)[w2.heap.size + 1 + 1]? = _
    rw [Array.getElem?_push, if_pos (by simp)]
  have hbx4 : (((w2.alloc (Obj.cells #[Value.int .u8 35, Value.int .u8 91] 5 (2, 3))).alloc (Obj.cells #[Value.slice (some ⟨w2.heap.size, 0, none⟩) 2 2] 38)).alloc (Obj.cells #[Value.int .u8 35, Value.int .u8 98, Value.int .u8 91] 5 (3, 4))).heap[w.heap.size]? = some (.cells #[.string a.e, .slice a1 a.d.length c1, .slice a2 a.x.length c2] 24 (0, 0)) := by
    show (((w2.heap.push _).push _).push _)[w.heap.size]? = _
    rw [Array.getElem?_push, if_neg (by simp; omega), Array.getElem?_push, if_neg (by simp; omega), Array.getElem?_push, if_neg (by omega)]; exact hbx2
  have hpc4 : (((w2.alloc (Obj.cells #[Value.int .u8 35, Value.int .u8 91] 5 (2, 3))).alloc (Obj.cells #[Value.slice (some ⟨w2.heap.size, 0, none⟩) 2 2] 38)).alloc (Obj.cells #[Value.int .u8 35, Value.int .u8 98, Value.int .u8 91] 5 (3, 4))).cell? ⟨w2.heap.size + 1, 0, none⟩ = some (Value.slice (some ⟨w2.heap.size, 0, none⟩) 2 2) := by simp only [World.cell?, hp4]; rfl
  have hfr4 := froz_no hp4
  have hp5 : (((w2.alloc (Obj.cells #[Value.int .u8 35, Value.int .u8 91] 5 (2, 3))).alloc (Obj.cells #[Value.slice (some ⟨w2.heap.size + 1 + 1, 0, none⟩) 3 3] 38)).alloc (Obj.cells #[Value.int .u8 35, Value.int .u8 98, Value.int .u8 91] 5 (3, 4))).heap[w2.heap.size + 1]? = some (Obj.cells #[(.slice (some ⟨w2.heap.size + 1 + 1, 0, none⟩) 3 3)] 38) := by
    show (((w2.heap.push _).push _).push _)[w2.heap.size + 1]? = _
    rw [Array.getElem?_push, if_neg (by simp), Array.getElem?_push, if_pos (by simp)]
  have hk5 : (((w2.alloc (Obj.cells #[Value.int .u8 35, Value.int .u8 91] 5 (2, 3))).alloc (Obj.cells #[Value.slice (some ⟨w2.heap.size + 1 + 1, 0, none⟩) 3 3] 38)).alloc (Obj.cells #[Value.int .u8 35, Value.int .u8 98, Value.int .u8 91] 5 (3, 4))).heap[w2.heap.size + 1 + 1]? = some (Obj.cells #[Value.int .u8 35, Value.int .u8 98, Value.int .u8 91] 5 (3, 4)) := by
    show (((w2.heap.push _).push _).push _)[w2.heap.size + 1 + 1]? = _
    rw [Array.getElem?_push, if_pos (by simp)]
  have hbx3 : (((w2.alloc (Obj.cells #[Value.int .u8 35, Value.int .u8 91] 5 (2, 3))).alloc (Obj.cells #[Value.slice (some ⟨w2.heap.size + 1 + 1, 0, none⟩) 3 3] 38)).alloc (Obj.cells #[Value.int .u8 35, Value.int .u8 98, Value.int .u8 91] 5 (3, 4))).heap[w.heap.size]? = some (.cells #[.string a.e, .slice a1 a.d.length c1, .slice a2 a.x.length c2] 24 (0, 0)) := by
    show (((w2.heap.push _).push _).push _)[w.heap.size]? = _
    rw [Array.getElem?_push, if_neg (by simp; omega), Array.getElem?_push, if_neg (by simp; omega), Array.getElem?_push, if_neg (by omega)]; exact hbx2
  have hb3 : Below w.heap.size w (((w2.alloc (Obj.cells #[Value.int .u8 35, Value.int .u8 91] 5 (2, 3))).alloc (Obj.cells #[Value.slice (some ⟨w2.heap.size + 1 + 1, 0, none⟩) 3 3] 38)).alloc (Obj.cells #[Value.int .u8 35, Value.int .u8 98, Value.int .u8 91] 5 (3, 4))) := ((hb2.alloc hsz2 _).alloc (by simp; omega) _).alloc (by simp; omega) _
  obtain ⟨_, f1'', _⟩ := box_cells hbx3
  have hPm : Pm w.heap.size (w2.heap.size + 1) [35, 98, 91] (((w2.alloc (Obj.cells #[Value.int .u8 35, Value.int .u8 91] 5 (2, 3))).alloc (Obj.cells #[Value.slice (some ⟨w2.heap.size + 1 + 1, 0, none⟩) 3 3] 38)).alloc (Obj.cells #[Value.int .u8 35, Value.int .u8 98, Value.int .u8 91] 5 (3, 4))) := ⟨_, hp5, ⟨w2.heap.size + 1 + 1, _, _, rfl, hk5, rfl⟩, by omega⟩
  go_wp2
  go_loopw [22] (fun i wr => ∃ n : Nat, n ≤ a.d.length ∧ i = .int .i64 n ∧ ((n = 0 ∧ Pm w.heap.size (w2.heap.size + 1) [35, 98, 91] wr) ∨ Pb w.heap.size (w2.heap.size + 1) (dT [35, 98, 91] a.d n) wr) ∧ wr.heap[w.heap.size]? = some (.cells #[.string a.e, .slice a1 a.d.length c1, .slice a2 a.x.length c2] 24 (0, 0)) ∧ Below w.heap.size w wr) (fun i _ => a.d.length - (intOf i).toNat)
  case atStart => exact ⟨0, by omega, rfl, .inl ⟨rfl, hPm⟩, hbx3, hb3⟩
  case round =>
    obtain ⟨n, hn, rfl, hP, hbr, hb⟩ := hrel
    clear hPm hk5 hp5 hbx3 hb3 hcv2 hp4 hk4 hbx4 hpc4 hfr4 f0 f1 f2 f0' f1' f1''
    obtain ⟨f0, f1, f2⟩ := box_cells hbr
    have hszr := hb.size
    have hTr := tabs_up hT hb
    by_cases hlt : n < a.d.length
    · obtain ⟨bk, off, rfl, e0⟩ := hd n hlt
      have hm := More.of_below hb
      have d0 := hm.cell (hin.1 _ _ _ e0)
      have hdn := hds _ (getD_mem' hlt)
      have hsu := dT_succ (H := [35, 98, 91]) hlt
      have hTl := dT_len (H := [35, 98, 91]) hdl hds (by simp) n
      generalize a.d.getD n 0 = x at *
      have hN : Calls Tryd.prog 14 #[.int .i64 x, .bool (decide (0 < n)), .pointer (some ⟨w2.heap.size + 1, 0, none⟩)] wr fun e w' => e = .returned (.tuple #[]) ∧ Pb w.heap.size (w2.heap.size + 1) (dT [35, 98, 91] a.d (n + 1)) w' ∧ Below w.heap.size wr w' ∧ Lib.OthersKept 5 (some (w2.heap.size + 1)) wr w' := by
        rw [hsu]
        rcases hP with ⟨rfl, hP⟩ | hP
        · have h := num_m (i := x) (by omega) hP hszr (by simp) hTr
          simpa [dT0] using h
        · have h := num_calls (i := x) (b := decide (0 < n)) (by omega) hP hszr (by omega) (fun w'' hb'' => (tabs_up hT (hb.trans hb'')).pow)
          simpa only [decide_eq_true_eq] using h
      go_wp2_with (go_at_call 14; refine hN.mono ?_)
      rintro e w4 ⟨rfl, h4, b4, k4⟩
      have hbx4 := arr_box hbr k4 (by omega) (by intro c fz h; cases h)
      have hbb := hb.trans b4
      go_wp2
      go_roundw
      case rel => exact ⟨n + 1, by omega, by go_num, .inr h4, hbx4, hbb⟩
      case measure => simp [intOf]; omega
    · have hnl : n = a.d.length := by omega
      subst hnl
      have hq : ∃ sv, wr.heap[w2.heap.size + 1]? = some (.cells #[sv] 38 (0, 0)) ∧ (Mk wr sv (Lib.byteCells (dT [35, 98, 91] a.d a.d.length)) ∨ wr.ownsRow w.heap.size 5 1 sv (dT [35, 98, 91] a.d a.d.length).length (Lib.byteCells (dT [35, 98, 91] a.d a.d.length))) := by
        rcases hP with ⟨h0, sv, h1, h2, h3⟩ | ⟨sv, h1, h2, h3⟩
        · exact ⟨sv, h1, .inl (by rw [h0, dT0]; exact h2)⟩
        · exact ⟨sv, h1, .inr h2⟩
      obtain ⟨sv, hp, hq⟩ := hq
      have hTl := dT_len (H := [35, 98, 91]) hdl hds (by simp) a.d.length
      generalize hTq : dT [35, 98, 91] a.d a.d.length = T at *
      clear hP
      have hpc : wr.cell? ⟨w2.heap.size + 1, 0, none⟩ = some sv := by simp [World.cell?, hp]
      have hq2 : Mk (wr.alloc (.cells #[.int .u8 58] 5)) sv (Lib.byteCells T) ∨ (wr.alloc (.cells #[.int .u8 58] 5)).ownsRow w.heap.size 5 1 sv T.length (Lib.byteCells T) := hq.imp (fun h => h.below ((Below.refl _ wr).alloc (Nat.le_refl _) _)) (fun h => h.alloc _)
      have hba : Below w.heap.size w (wr.alloc (.cells #[.int .u8 58] 5)) := hb.alloc hszr _
      have hka : Lib.OthersKept 5 none wr (wr.alloc (.cells #[.int .u8 58] 5)) := (Lib.OthersKept.refl _ _ wr).alloc _
      have hsa : w.heap.size ≤ (wr.alloc (.cells #[.int .u8 58] 5)).heap.size := hba.size
      go_wp2_with (at_builtin; refine wpl_app _ rfl _ _ rfl sv T rfl hq2 hsa (by omega) wr.heap.size 58 rfl ?c1 ?c2)
      case c1 => have h := push_at wr (.cells #[.int .u8 58] 5)
                 simp only [World.cell?, h]; rfl
      intro v5 w5 hown5 hb5 hk5
      have hk5' := hka.trans hk5
      have hp5 : w5.heap[w2.heap.size + 1]? = some (.cells #[sv] 38 (0, 0)) := hk5' _ _ hp (by simp) (by intro c fz h; cases h)
      have hbx5 : w5.heap[w.heap.size]? = some (.cells #[.string a.e, .slice a1 a.d.length c1, .slice a2 a.x.length c2] 24 (0, 0)) := hk5' _ _ hbr (by simp) (by intro c fz h; cases h)
      obtain ⟨a5, m5, c5, rfl⟩ := own_slice hown5
      have hown5 : w5.ownsRow w.heap.size 5 1 (.slice a5 m5 c5) (T ++ [58]).length (Lib.byteCells (T ++ [58])) := by rw [List.length_append]; exact hown5
      have hfr5 := froz_no hp5
      have hpc5 : w5.cell? ⟨w2.heap.size + 1, 0, none⟩ = some sv := by simp [World.cell?, hp5]
      have hP6 := pb_store hp5 hown5 (show w.heap.size ≤ w2.heap.size + 1 by omega)
      have hb6 := (hba.trans hb5).setCell (p := ⟨w2.heap.size + 1, 0, none⟩) (show w.heap.size ≤ w2.heap.size + 1 by omega) (.slice a5 m5 c5)
      have hbx6 : (w5.setCell ⟨w2.heap.size + 1, 0, none⟩ (.slice a5 m5 c5)).heap[w.heap.size]? = some (.cells #[.string a.e, .slice a1 a.d.length c1, .slice a2 a.x.length c2] 24 (0, 0)) := by
        rw [Below.heap_setCell _ _ _ _ (by simp; omega)]; exact hbx5
      obtain ⟨e0, e1, e2⟩ := box_cells hbx6
      go_wp2
      have hG : (T ++ [58]).length ≤ 1000 := by simp only [List.length_append, List.length_singleton]; omega
      generalize hGq : T ++ [58] = G at *
      clear hp hq hq2 hba hka hsa hown5 hb5 hk5 hk5' hp5 hbx5 hfr5 hpc5 hbr hb f0 f1 f2 hpc hTr hszr
      go_loopw [41] (fun i wr => ∃ n : Nat, n ≤ a.x.length ∧ i = .int .i64 n ∧ Pb w.heap.size (w2.heap.size + 1) (xT G a.x n) wr ∧ wr.heap[w.heap.size]? = some (.cells #[.string a.e, .slice a1 a.d.length c1, .slice a2 a.x.length c2] 24 (0, 0)) ∧ Below w.heap.size w wr) (fun i _ => a.x.length - (intOf i).toNat)
      case atStart => exact ⟨0, by omega, rfl, by rw [xT0]; exact hP6, hbx6, hb6⟩
      case round =>
        obtain ⟨n, hn, rfl, hP, hbr, hb⟩ := hrel
        clear hP6 hbx6 hb6 e0 e1 e2
        obtain ⟨f0, f1, f2⟩ := box_cells hbr
        have hszr := hb.size
        have hTr := tabs_up hT hb
        have hTl := xT_len hxl hxs hG n
        by_cases hlt : n < a.x.length
        · obtain ⟨bk, off, rfl, e0⟩ := hx n hlt
          have hm := More.of_below hb
          have d0 := hm.cell (hin.1 _ _ _ e0)
          have hdn := hxs _ (getD_mem' hlt)
          have hsu := xT_succ (H := G) hlt
          generalize a.x.getD n 0 = x at *
          have hN : Calls Tryd.prog 14 #[.int .i64 x, .bool true, .pointer (some ⟨w2.heap.size + 1, 0, none⟩)] wr fun e w' => e = .returned (.tuple #[]) ∧ Pb w.heap.size (w2.heap.size + 1) (xT G a.x (n + 1)) w' ∧ Below w.heap.size wr w' ∧ Lib.OthersKept 5 (some (w2.heap.size + 1)) wr w' := by
            rw [hsu]
            exact num_t (i := x) (by omega) hP hszr (by omega) (fun w'' hb'' => (tabs_up hT (hb.trans hb'')).pow)
          go_wp2_with (go_at_call 14; refine hN.mono ?_)
          rintro e w4 ⟨rfl, h4, b4, k4⟩
          have hbx4 := arr_box hbr k4 (by omega) (by intro c fz h; cases h)
          have hbb := hb.trans b4
          go_wp2
          go_roundw
          case rel => exact ⟨n + 1, by omega, by go_num, h4, hbx4, hbb⟩
          case measure => simp [intOf]; omega
        · have hnl : n = a.x.length := by omega
          subst hnl
          obtain ⟨sv, hp, hq, hpB⟩ := hP
          generalize hT2q : xT G a.x a.x.length = T2 at *
          have hpc : wr.cell? ⟨w2.heap.size + 1, 0, none⟩ = some sv := by simp [World.cell?, hp]
          have hq2 : Mk (wr.alloc (.cells #[.int .u8 93] 5)) sv (Lib.byteCells T2) ∨ (wr.alloc (.cells #[.int .u8 93] 5)).ownsRow w.heap.size 5 1 sv T2.length (Lib.byteCells T2) := .inr (hq.alloc _)
          have hba : Below w.heap.size w (wr.alloc (.cells #[.int .u8 93] 5)) := hb.alloc hszr _
          have hsa : w.heap.size ≤ (wr.alloc (.cells #[.int .u8 93] 5)).heap.size := hba.size
          go_wp2_with (at_builtin; refine wpl_app _ rfl _ _ rfl sv T2 rfl hq2 hsa (by omega) wr.heap.size 93 rfl ?d1 ?d2)
          case d1 => have h := push_at wr (.cells #[.int .u8 93] 5)
                     simp only [World.cell?, h]; rfl
          intro v5 w5 hown5 hb5 hk5
          have hown5 : w5.ownsRow w.heap.size 5 1 v5 (T2 ++ [93]).length (Lib.byteCells (T2 ++ [93])) := by rw [List.length_append]; exact hown5
          have hcs : ∃ g cap, v5 = .slice (some ⟨g, 0, none⟩) (T2 ++ [93]).length cap := by
            rcases hown5.2 with ⟨_, h⟩ | ⟨g, cap, cur, rfl, _⟩
            · simp at h
            · exact ⟨g, cap, rfl⟩
          obtain ⟨g, cap, rfl⟩ := hcs
          have hcl := hown5.cells (g := g) rfl
          have hct := run_convert_bytes_back (P := Tryd.prog) w5 38 9 5 ⟨g, 0, none⟩ cap (T2 ++ [93]) u38' (by kernel_rfl) u9' (fun j hj => hcl j _ (bc_at hj))
          have hbe := hba.trans hb5
          generalize hT3q : T2 ++ [93] = T3 at *
          go_wp2
          go_ret2
          subst hT3q hT2q hGq hTq
          exact ⟨rfl, hbe⟩
theorem print_pc {a : Arr} (h1 : a.d.length ≤ 1000000) (h2 : a.x.length ≤ 1000000) : PC Tryd.prog 6 [arrV a] (printT a) := by
  unfold printT
  by_cases h0 : ofE a = 0
  · rw [if_pos h0]
    refine pc_tup2 fun C w vs hl hin => ?_
    obtain ⟨hl1, hl2⟩ := hl
    match vs, hl1 with
    | [v], _ =>
      have hv : RC C (arrV a) v := hl2 0 (by simp)
      rcases (sm_of h0).e with he | he
      · exact print_int hv hin h0 he
      · exact print_bool hv hin h0 he
  · rw [if_neg h0]
    refine pc_tup2 fun C w vs hl hin => ?_
    obtain ⟨hl1, hl2⟩ := hl
    match vs, hl1 with
    | [v], _ => exact print_bad (hl2 0 (by simp)) hin h1 h2 h0
end Go.Proofs.YtdndgmcmmbjjkaaDoor.Tx

/- Parse: the program's. -/
namespace Go.Proofs.YtdndgmcmmbjjkaaDoor.Tx
open Go.Proofs.YtdndgmcmmbjjkaaDoor
open Go Go.Fw
set_option maxRecDepth 20000
def cO (l : List UInt8) : Bool := (cutS 58 l).isSome
def cA (l : List UInt8) : List UInt8 := match cutS 58 l with
  | some p => p.1
  | none => l
def cB (l : List UInt8) : List UInt8 := match cutS 58 l with
  | some p => p.2
  | none => []
theorem cutV_sym (l : List UInt8) : cutV 58 l = .tup [.lit (.string (bs (cA l))), .lit (.string (bs (cB l))), .lit (.bool (cO l))] := by
  unfold cutV cA cB cO
  cases cutS 58 l with
  | none => rfl
  | some p => rfl
theorem cA_len (l : List UInt8) : (cA l).length ≤ l.length := by
  unfold cA
  cases h : cutS 58 l with
  | none => exact Nat.le_refl _
  | some p =>
    obtain ⟨a, b⟩ := p
    have := (cutS_some h).2.1
    simp only [this, List.length_append, List.length_cons]; omega
theorem cB_len (l : List UInt8) : (cB l).length ≤ l.length := by
  unfold cB
  cases h : cutS 58 l with
  | none => exact Nat.zero_le _
  | some p =>
    obtain ⟨a, b⟩ := p
    have := (cutS_some h).2.1
    simp only [this, List.length_append, List.length_cons]; omega
def pT (a : Arr) : List UInt8 := if ofE a = 0 then textA a else []
def pE (a : Arr) : Int := if ofE a = 0 then 0 else 1
theorem printT_sym (a : Arr) : printT a = .tup [.lit (.string (bs (pT a))), .lit (.int .i64 (pE a))] := by
  unfold printT pT pE
  split <;> rfl
noncomputable def con6 : PCon Tryd.prog where
  f := 6
  c := fun
    | [x] => match arrOf x with
      | some a => some (a.d.length ≤ 1000000 ∧ a.x.length ≤ 1000000, printT a)
      | none => none
    | _ => none
  ok := by
    intro args p r hc hp
    split at hc
    · split at hc
      · rename_i ha
        cases hc
        exact PC.weak (print_pc hp.1 hp.2) ⟨arrOf_le ha, trivial⟩
      · cases hc
    · cases hc
  fk := fk6
theorem con6_f : con6.f = 6 := rfl
theorem con6_c {x : AV} : con6.c [x] = match arrOf x with
      | some a => some (a.d.length ≤ 1000000 ∧ a.x.length ≤ 1000000, printT a)
      | none => none := rfl
noncomputable def con7 : PCon Tryd.prog where
  f := 7
  c := fun
    | [x] => match arrOf x with
      | some a => some (a.d.length ≤ 1000000 ∧ a.x.length ≤ 1000000, printT a)
      | none => none
    | _ => none
  ok := by
    intro args p r hc hp
    split at hc
    · split at hc
      · rename_i ha
        cases hc
        exact PC.weak (rprint_pc hp.1 hp.2) ⟨arrOf_le ha, trivial⟩
      · cases hc
    · cases hc
  fk := fk7
theorem con7_f : con7.f = 7 := rfl
theorem con7_c {x : AV} : con7.c [x] = match arrOf x with
      | some a => some (a.d.length ≤ 1000000 ∧ a.x.length ≤ 1000000, printT a)
      | none => none := rfl
attribute [go_sem] con6_f con7_f
def preB (ok : Bool) (e : ByteArray) (r : List UInt8) : Option Arr :=
  if (!ok || !Lib.hasSuffix r [93] || !cO (Lib.trimSuffix r [93]) || !numB (cA (Lib.trimSuffix r [93])) || !numB (cB (Lib.trimSuffix r [93]))) = true then none
  else some ⟨e, numL (cA (Lib.trimSuffix r [93])), numL (cB (Lib.trimSuffix r [93]))⟩
def pre1 (l : List UInt8) : Option Arr := if Lib.hasPrefix l [35, 91] = true then preB true sInt (Lib.trimPrefix l [35, 91]) else preB (Lib.hasPrefix l [35, 98, 91]) sBool (Lib.trimPrefix l [35, 98, 91])
def fin (o : Option Arr) (l : List UInt8) : Arr × Int := match o with
  | some a => if ofE a = 0 ∧ textA a = l then (a, 0) else (nilA, 6)
  | none => (nilA, 6)
theorem trimp_len (l m : List UInt8) : (Lib.trimPrefix l m).length ≤ l.length := by
  unfold Lib.trimPrefix
  split
  · rw [List.length_drop]; omega
  · exact Nat.le_refl _
theorem trims_len (l m : List UInt8) : (Lib.trimSuffix l m).length ≤ l.length := by
  unfold Lib.trimSuffix
  split
  · rw [List.length_take]; omega
  · exact Nat.le_refl _
noncomputable def P8 : Env := envJ (P := Tryd.prog) jkA zer (fun _ => false) (fun _ => false) [con18, con19, con20, con21, con11, con6] []
theorem P8_ok : EnvOk Tryd.prog P8 := envJOk zer_ok
theorem arr_eta (a : Arr) : (⟨a.e, a.d, a.x⟩ : Arr) = a := rfl
theorem okA_ofS {a : Arr} (h1 : a.d.length ≤ 1000000) (h2 : a.x.length ≤ 1000000) : (ofS a).1.d.length ≤ 1000000 ∧ (ofS a).1.x.length ≤ 1000000 := by
  unfold ofS
  split
  · exact ⟨h1, h2⟩
  · exact ⟨by simp [nilA], by simp [nilA]⟩
theorem ofS_2 {a : Arr} : (ofS a).2 = ofE a := by
  unfold ofS
  split
  · rename_i h; exact h.symm
  · rfl
theorem fin_n {o : Option Arr} {l : List UInt8} (h : ∀ a, o = some a → ¬ (ofE a = 0 ∧ textA a = l)) : fin o l = (nilA, 6) := by
  unfold fin
  split
  · rename_i a; rw [if_neg (h a rfl)]
  · rfl
theorem fin_1 {X : Bool} {a : Arr} {l : List UInt8} (hX : X = true) : fin (if X = true then none else some a) l = (nilA, 6) := by rw [if_pos hX]; rfl
theorem fin_2 {X : Bool} {a : Arr} {l : List UInt8} (h : ((ofS a).2 != 0) = true) : fin (if X = true then none else some a) l = (nilA, 6) := by
  refine fin_n fun b hb hq => ?_
  split at hb
  · cases hb
  · cases hb
    rw [ofS_2, hq.1] at h; cases h
theorem fin_3 {X : Bool} {a : Arr} {l : List UInt8} (h0 : ((ofS a).2 != 0) = false) (h : (!(pT (ofS a).1 == l)) = true) : fin (if X = true then none else some a) l = (nilA, 6) := by
  refine fin_n fun b hb hq => ?_
  split at hb
  · cases hb
  · cases hb
    have e : (ofS a).1 = a := by unfold ofS; rw [if_pos hq.1]
    rw [e] at h
    unfold pT at h
    rw [if_pos hq.1, hq.2] at h
    simp at h
theorem fin_4 {X : Bool} {a : Arr} {l : List UInt8} (hX : X = false) (h0 : ((ofS a).2 != 0) = false) (h : (!(pT (ofS a).1 == l)) = false) : fin (if X = true then none else some a) l = ((ofS a).1, 0) := by
  have h1 : ofE a = 0 := by rw [ofS_2] at h0; simpa using h0
  have e : (ofS a).1 = a := by unfold ofS; rw [if_pos h1]
  rw [e] at h ⊢
  unfold pT at h
  rw [if_pos h1] at h
  have h2 : textA a = l := by simpa using h
  rw [hX]
  simp only [Bool.false_eq_true, if_false, fin]
  rw [if_pos ⟨h1, h2⟩]
theorem nil_to {q : Arr × Int} (h : q = (nilA, 6)) : LeA (.tup [.agg [.lit (.string (bs [])), .sl true 1 [], .sl true 1 []], .lit (.int .i64 6)]) (aeV q) := by subst h; exact nilAe_le
theorem arr_to {q : Arr × Int} {a : Arr} (h : q = (a, 0)) : LeA (.tup [.agg [.lit (.string a.e), .sl false 1 (ints .i64 a.d), .sl false 1 (ints .i64 a.x)], .lit (.int .i64 0)]) (aeV q) := by subst h; exact LeA.refl _
set_option maxHeartbeats 4000000 in
theorem parse_pc {l : List UInt8} (hl : l.length ≤ 200000) : PC Tryd.prog 8 [.lit (.string (bs l))] (aeV (fin (pre1 l) l)) := by
  have hsi : (⟨#[105, 110, 116]⟩ : ByteArray) = sInt := rfl
  have hsb : (⟨#[98, 111, 111, 108]⟩ : ByteArray) = sBool := rfl
  cases h1 : Lib.hasPrefix l [35, 91]
  all_goals
    simp only [pre1, h1, Bool.false_eq_true, if_false, if_true]
  · have hr := trimp_len l [35, 98, 91]
    have hq := trims_len (Lib.trimPrefix l [35, 98, 91]) [93]
    have ha := cA_len (Lib.trimSuffix (Lib.trimPrefix l [35, 98, 91]) [93])
    have hb := cB_len (Lib.trimSuffix (Lib.trimPrefix l [35, 98, 91]) [93])
    have hna := numL_len (cA (Lib.trimSuffix (Lib.trimPrefix l [35, 98, 91]) [93]))
    have hnb := numL_len (cB (Lib.trimSuffix (Lib.trimPrefix l [35, 98, 91]) [93]))
    unfold preB
    generalize hok : Lib.hasPrefix l [35, 98, 91] = ok
    generalize hrr : Lib.trimPrefix l [35, 98, 91] = r at *
    generalize hqq : Lib.trimSuffix r [93] = q at *
    generalize hss : Lib.hasSuffix r [93] = su at *
    generalize hAA : numL (cA q) = A at *
    generalize hBB : numL (cB q) = B at *
    generalize hcA : numB (cA q) = bA at *
    generalize hcB : numB (cB q) = bB at *
    generalize hco : cO q = co at *
    generalize hX : (!ok || !su || !co || !bA || !bB) = X
    have hl2 := okA_ofS (a := ⟨sBool, A, B⟩) (by simp only; omega) (by simp only; omega)
    refine pcR P8_ok (kp8) Tryd.func8 [.cell 2 24, .tmp 3] (h := fun KF => ?_)
    unfold P8
    repeat' (first
     | (with_reducible first | refine nx ?_ | refine t_seq fun K => ?_ | refine t_br (fun hc => ?_) fun hc => ?_ | refine t_bx ?_ | apply And.intro | intro vr)
     | ((with_reducible first | refine ny ?_ | refine t_dwh (h := fun K KL => ?_)); intros; simp only [go_sem, kp8, geff, con11_f, con11_c, con6_f, con6_c, slK_sl, arrV_def, arrOf_agg, aeV_def, arr_eta, printT_sym, h1, hsi, hsb, hrr, hqq, hss, cutV_sym, hAA, hBB, hcA, hcB, hco, hX, hok]))
    all_goals try exact nd
    all_goals (refine nl ?_; simp only [go_sem])
    · exact nil_to (fin_1 hc)
    · exact nil_to (fin_2 hc)
    · exact nil_to (fin_3 ‹((ofS _).2 != 0) = false› hc)
    · exact arr_to (fin_4 ‹X = false› ‹((ofS _).2 != 0) = false› hc)
  · have hr := trimp_len l [35, 91]
    have hq := trims_len (Lib.trimPrefix l [35, 91]) [93]
    have ha := cA_len (Lib.trimSuffix (Lib.trimPrefix l [35, 91]) [93])
    have hb := cB_len (Lib.trimSuffix (Lib.trimPrefix l [35, 91]) [93])
    have hna := numL_len (cA (Lib.trimSuffix (Lib.trimPrefix l [35, 91]) [93]))
    have hnb := numL_len (cB (Lib.trimSuffix (Lib.trimPrefix l [35, 91]) [93]))
    unfold preB
    generalize hrr : Lib.trimPrefix l [35, 91] = r at *
    generalize hqq : Lib.trimSuffix r [93] = q at *
    generalize hss : Lib.hasSuffix r [93] = su at *
    generalize hAA : numL (cA q) = A at *
    generalize hBB : numL (cB q) = B at *
    generalize hcA : numB (cA q) = bA at *
    generalize hcB : numB (cB q) = bB at *
    generalize hco : cO q = co at *
    generalize hX : (!true || !su || !co || !bA || !bB) = X
    have hl2 := okA_ofS (a := ⟨sInt, A, B⟩) (by simp only; omega) (by simp only; omega)
    have hX2 := hX
    simp only [Bool.not_true, Bool.false_or] at hX2
    refine pcR P8_ok (kp8) Tryd.func8 [.cell 2 24, .tmp 3] (h := fun KF => ?_)
    unfold P8
    repeat' (first
     | (with_reducible first | refine nx ?_ | refine t_seq fun K => ?_ | refine t_br (fun hc => ?_) fun hc => ?_ | refine t_bx ?_ | apply And.intro | intro vr)
     | ((with_reducible first | refine ny ?_ | refine t_dwh (h := fun K KL => ?_)); intros; simp only [go_sem, kp8, geff, con11_f, con11_c, con6_f, con6_c, slK_sl, arrV_def, arrOf_agg, aeV_def, arr_eta, printT_sym, h1, hsi, hsb, hrr, hqq, hss, cutV_sym, hAA, hBB, hcA, hcB, hco, hX, hX2]))
    all_goals try exact nd
    all_goals (refine nl ?_; simp only [go_sem])
    · exact nil_to (fin_1 hc)
    · exact nil_to (fin_2 hc)
    · exact nil_to (fin_3 ‹((ofS _).2 != 0) = false› hc)
    · exact arr_to (fin_4 ‹X = false› ‹((ofS _).2 != 0) = false› hc)
end Go.Proofs.YtdndgmcmmbjjkaaDoor.Tx

/- The document's number and Parse. -/
namespace Go.Proofs.YtdndgmcmmbjjkaaDoor.Tx
open Go.Proofs.YtdndgmcmmbjjkaaDoor
open Go Go.Fw
set_option maxRecDepth 20000
/-- Digits read: their number and how many. -/
def dgs : Nat → Nat → List UInt8 → Nat × Nat
  | 0, n, _ => (n, 0)
  | _ + 1, n, [] => (n, 0)
  | f + 1, n, c :: r => if 48 ≤ c.toNat ∧ c.toNat ≤ 57 then ((dgs f (10 * n + (c.toNat - 48)) r).1, (dgs f (10 * n + (c.toNat - 48)) r).2 + 1) else (n, 0)
def numR (l : List UInt8) (i : Nat) : Int × Int :=
  if l.getD i 0 = 45 then (if (dgs 12 0 (l.drop (i + 1))).2 = 0 then (0, -1) else (-((dgs 12 0 (l.drop (i + 1))).1 : Int), ((i + 1 + (dgs 12 0 (l.drop (i + 1))).2 : Nat) : Int)))
  else (if (dgs 12 0 (l.drop i)).2 = 0 then (0, -1) else (((dgs 12 0 (l.drop i)).1 : Int), ((i + (dgs 12 0 (l.drop i)).2 : Nat) : Int)))
def numW (sg : Int) (l : List UInt8) (st : Nat) : Int × Int := if (dgs 12 0 (l.drop st)).2 = 0 then (0, -1) else (sg * ((dgs 12 0 (l.drop st)).1 : Int), ((st + (dgs 12 0 (l.drop st)).2 : Nat) : Int))
structure Ng (l : List UInt8) (st : Nat) where
  k : Nat
  n : Nat
  h1 : st ≤ k
  h2 : k ≤ l.length
  h3 : k - st ≤ 12
  hn : n < 10 ^ (k - st)
  h : dgs 12 0 (l.drop st) = ((dgs (12 - (k - st)) n (l.drop k)).1, (dgs (12 - (k - st)) n (l.drop k)).2 + (k - st))
theorem pow12 {i : Nat} (h : i ≤ 12) : 10 ^ i ≤ 1000000000000 := Nat.pow_le_pow_right (n := 10) (by omega) h
theorem drop_at {l : List UInt8} {i : Nat} (h : i < l.length) : l.drop i = l.getD i 0 :: l.drop (i + 1) := by
  rw [List.drop_eq_getElem_cons h]
  congr 1
  rw [List.getD_eq_getElem?_getD, List.getElem?_eq_getElem h]; rfl
theorem dgs_stop {f n : Nat} {l : List UInt8} (h : f = 0 ∨ l = [] ∨ ∃ c r, l = c :: r ∧ ¬ (48 ≤ c.toNat ∧ c.toNat ≤ 57)) : dgs f n l = (n, 0) := by
  cases f with
  | zero => rfl
  | succ f =>
    rcases h with h | rfl | ⟨c, r, rfl, h⟩
    · cases h
    · rfl
    · unfold dgs; rw [if_neg h]
theorem dgs_step {f n : Nat} {c : UInt8} {r : List UInt8} (h : 48 ≤ c.toNat ∧ c.toNat ≤ 57) : dgs (f + 1) n (c :: r) = ((dgs f (10 * n + (c.toNat - 48)) r).1, (dgs f (10 * n + (c.toNat - 48)) r).2 + 1) := by
  rw [dgs, if_pos h]
def nrV (p : Int × Int) : AV := .tup [.lit (.int .i64 p.1), .lit (.int .i64 p.2)]
noncomputable def N23 : Env := envJ (P := Tryd.prog) jkA zer (fun _ => false) (fun _ => false) [] []
theorem N23_ok : EnvOk Tryd.prog N23 := envJOk zer_ok
theorem Ng.step {l : List UInt8} {st : Nat} (s : Ng l st) (hk : s.k < l.length) (h12 : s.k - st < 12) (hd : 48 ≤ (l.getD s.k 0).toNat ∧ (l.getD s.k 0).toNat ≤ 57) : ∃ t : Ng l st, t.k = s.k + 1 ∧ t.n = 10 * s.n + ((l.getD s.k 0).toNat - 48) := by
  obtain ⟨k, n, h1, h2, h3, hn, h⟩ := s
  simp only at hk h12 hd
  refine ⟨⟨k + 1, 10 * n + ((l.getD k 0).toNat - 48), by omega, hk, by omega, ?_, ?_⟩, rfl, rfl⟩
  · rw [show k + 1 - st = (k - st) + 1 by omega, Nat.pow_succ]; omega
  · rw [h, drop_at hk, show 12 - (k - st) = (12 - (k + 1 - st)) + 1 by omega, dgs_step hd]
    simp only [Prod.mk.injEq, true_and]
    omega
theorem Ng.stop {l : List UInt8} {st : Nat} (s : Ng l st) (hs : s.k = l.length ∨ s.k - st = 12 ∨ ¬ (48 ≤ (l.getD s.k 0).toNat ∧ (l.getD s.k 0).toNat ≤ 57)) (sg : Int) : numW sg l st = if s.k = st then (0, -1) else (sg * (s.n : Int), (s.k : Int)) := by
  obtain ⟨k, n, h1, h2, h3, hn, h⟩ := s
  simp only at hs ⊢
  have hst : dgs (12 - (k - st)) n (l.drop k) = (n, 0) := by
    refine dgs_stop ?_
    rcases hs with hs | hs | hs
    · exact .inr (.inl (List.drop_eq_nil_of_le (by omega)))
    · exact .inl (by omega)
    · rcases Nat.lt_or_ge k l.length with hl | hl
      · exact .inr (.inr ⟨_, _, drop_at hl, hs⟩)
      · exact .inr (.inl (List.drop_eq_nil_of_le hl))
  rw [hst] at h
  unfold numW
  rw [h]
  simp only [Nat.zero_add]
  by_cases hk : k = st
  · rw [if_pos (by omega), if_pos hk]
  · rw [if_neg (by omega), if_neg hk]
    rw [show st + (k - st) = k by omega]
theorem num_neg {l : List UInt8} {i : Nat} (h : l.getD i 0 = 45) : numR l i = numW (-1) l (i + 1) := by
  unfold numR numW
  rw [if_pos h]
  simp only [Int.neg_mul, Int.one_mul]
theorem num_pos {l : List UInt8} {i : Nat} (h : ¬ l.getD i 0 = 45) : numR l i = numW 1 l i := by
  unfold numR numW
  rw [if_neg h]
  simp only [Int.one_mul]
theorem bt45 {l : List UInt8} {i : Nat} : (bt l i == 45) = decide (l.getD i 0 = 45) := by
  unfold bt
  rw [Bool.eq_iff_iff]
  simp only [beq_iff_eq, decide_eq_true_eq]
  constructor
  · intro e; exact UInt8.toNat_inj.1 (by have : (45 : UInt8).toNat = 45 := rfl; omega)
  · intro e; rw [e]; rfl
set_option maxHeartbeats 4000000 in
theorem number_pc {l : List UInt8} {i : Nat} (hl : l.length ≤ 1000000) (hi : i < l.length) : PC Tryd.prog 23 [.lit (.string (bs l)), .lit (.int .i64 (i : Int))] (nrV (numR l i)) := by
  have z0 : decide ((i : Int) < (l.length : Int)) = true := decide_eq_true (by omega)
  have z1 := bt45 (l := l) (i := i)
  generalize hV : numR l i = V
  by_cases h45 : l.getD i 0 = 45
  · rw [decide_eq_true h45] at z1
    rw [num_neg h45] at hV
    have hi1 : ((i : Int) + 1) = ((i + 1 : Nat) : Int) := by omega
    have hst0 : i + 1 ≤ l.length := hi
    refine pcR N23_ok (kp23) Tryd.func23 [.tmp 4, .tmp 5] (h := fun KF => ?_)
    unfold N23
    repeat' (first
     | (with_reducible first | refine nx ?_ | refine t_seq fun K => ?_ | refine t_br (fun hc => ?_) fun hc => ?_ | refine t_bx ?_ | apply And.intro | intro vr)
     | ((with_reducible first | refine ny ?_ | refine t_dwh (h := fun K KL => ?_)); intros; simp only [go_sem, kp23, geff, z0, z1, hi1, Int.toNat_natCast]))
    all_goals try exact nd
    generalize i + 1 = st at *
    refine t_loopF (ι := Ng l st) (fun i => [(9, .lit (.int .i64 (i.k : Int))), (8, .lit (.int .i64 (i.n : Int)))]) (fun i => []) (fun i => l.length - i.k) ⟨st, 0, Nat.le_refl _, hst0, by omega, by simp, by simp⟩ ?_ ?_
    · exact lf
    rintro ⟨k, n, h1, h2, h3, hn, h⟩ K0
    have s : Σ' s : Ng l st, s.k = k ∧ s.n = n := ⟨⟨k, n, h1, h2, h3, hn, h⟩, rfl, rfl⟩
    obtain ⟨s, hsk, hsn⟩ := s
    have hn2 : n < 1000000000000 := Nat.lt_of_lt_of_le hn (pow12 h3)
    rcases Nat.lt_or_ge k l.length with hc | hc
    · have k1 : decide ((k : Int) < (l.length : Int)) = true := decide_eq_true (by omega)
      have hbt : bt l k = (((l.getD k 0).toNat : Nat) : Int) := rfl
      have h256 : (l.getD k 0).toNat < 256 := UInt8.toNat_lt _
      by_cases hd : 48 ≤ (l.getD k 0).toNat ∧ (l.getD k 0).toNat ≤ 57
      · have k2 : decide (bt l k ≥ 48) = true := decide_eq_true (by omega)
        have k3 : decide (bt l k ≤ 57) = true := decide_eq_true (by omega)
        by_cases h12 : k - st < 12
        · have k4 : decide ((k : Int) - (st : Int) < 12) = true := decide_eq_true (by omega)
          obtain ⟨s2, e1, e2⟩ := s.step (by rw [hsk]; exact hc) (by rw [hsk]; exact h12) (by rw [hsk]; exact hd)
          rw [hsk] at e1 e2
          rw [hsn] at e2
          have hw : IntKind.u8.wrap (bt l k - 48) = bt l k - 48 := by rw [IntKind.wrap_u8]; omega
          have hw2 : IntKind.i64.wrap (bt l k - 48) = bt l k - 48 := by rw [IntKind.wrap_i64]; omega
          have hv : (10 : Int) * (n : Int) + (bt l k - 48) = ((s2.n : Nat) : Int) := by omega
          have hk2 : (k : Int) + 1 = ((s2.k : Nat) : Int) := by omega
          repeat' (first
           | (with_reducible first | refine nx ?_ | refine t_seq fun K => ?_ | refine t_br (fun hc => ?_) fun hc => ?_ | refine t_bx ?_ | apply And.intro | intro vr)
           | ((with_reducible first | refine ny ?_ | refine t_dwh (h := fun K KL => ?_)); intros; simp only [go_sem, kp23, geff, k1, k2, k3, k4, hw, hw2, Int.toNat_natCast, yes]))
          all_goals try exact nd
          refine ⟨s2, by simp only; omega, ?_⟩
          simp only [hv, hk2]
          first | exact lf | (refine Le.frameS (by first | rfl | (simp only [go_sem]; try rfl)) ?_; repeat' (first | exact leF_top _ | exact (fun _ => LeR.refl _) | (with_reducible refine leF_sl ?_ ?_) | (refine leF_upd ?_ ?_))) <;> (first | exact LeR.top _ | exact LeR.refl _ | (refine LeR.of_eq ?_; (try simp only [go_sem]); try rfl) | ((try simp only [go_sem]); try rfl))
        · have k4 : decide ((k : Int) - (st : Int) < 12) = false := decide_eq_false (by omega)
          have hs2 := s.stop (.inr (.inl (by omega))) (-1)
          rw [hV] at hs2
          rw [hsk, hsn] at hs2
          by_cases hks : k = st
          · have k5 : ((k : Int) == (st : Int)) = true := by rw [hks]; simp
            rw [if_pos hks] at hs2
            repeat' (first
             | (with_reducible first | refine nx ?_ | refine t_seq fun K => ?_ | refine t_br (fun hc => ?_) fun hc => ?_ | refine t_bx ?_ | apply And.intro | intro vr)
             | ((with_reducible first | refine ny ?_ | refine t_dwh (h := fun K KL => ?_)); intros; simp only [go_sem, kp23, geff, k1, k2, k3, k4, k5, Int.toNat_natCast, yes]))
            all_goals try exact nd
            all_goals (refine nl ?_; simp only [go_sem])
            all_goals exact LeA.of_eq (by rw [hs2]; rfl)
          · have k5 : ((k : Int) == (st : Int)) = false := by simp; omega
            rw [if_neg hks] at hs2
            repeat' (first
             | (with_reducible first | refine nx ?_ | refine t_seq fun K => ?_ | refine t_br (fun hc => ?_) fun hc => ?_ | refine t_bx ?_ | apply And.intro | intro vr)
             | ((with_reducible first | refine ny ?_ | refine t_dwh (h := fun K KL => ?_)); intros; simp only [go_sem, kp23, geff, k1, k2, k3, k4, k5, Int.toNat_natCast, yes]))
            all_goals try exact nd
            all_goals (refine nl ?_; simp only [go_sem])
            exact LeA.of_eq (by rw [hs2]; simp [nrV])
      · by_cases h48 : (l.getD k 0).toNat < 48
        · have k2 : decide (bt l k ≥ 48) = false := decide_eq_false (by omega)
          have hs2 := s.stop (.inr (.inr (by rw [hsk]; exact hd))) (-1)
          rw [hV] at hs2
          rw [hsk, hsn] at hs2
          by_cases hks : k = st
          · have k5 : ((k : Int) == (st : Int)) = true := by rw [hks]; simp
            rw [if_pos hks] at hs2
            repeat' (first
             | (with_reducible first | refine nx ?_ | refine t_seq fun K => ?_ | refine t_br (fun hc => ?_) fun hc => ?_ | refine t_bx ?_ | apply And.intro | intro vr)
             | ((with_reducible first | refine ny ?_ | refine t_dwh (h := fun K KL => ?_)); intros; simp only [go_sem, kp23, geff, k1, k2, k5, Int.toNat_natCast, yes]))
            all_goals try exact nd
            all_goals (refine nl ?_; simp only [go_sem])
            all_goals exact LeA.of_eq (by rw [hs2]; rfl)
          · have k5 : ((k : Int) == (st : Int)) = false := by simp; omega
            rw [if_neg hks] at hs2
            repeat' (first
             | (with_reducible first | refine nx ?_ | refine t_seq fun K => ?_ | refine t_br (fun hc => ?_) fun hc => ?_ | refine t_bx ?_ | apply And.intro | intro vr)
             | ((with_reducible first | refine ny ?_ | refine t_dwh (h := fun K KL => ?_)); intros; simp only [go_sem, kp23, geff, k1, k2, k5, Int.toNat_natCast, yes]))
            all_goals try exact nd
            all_goals (refine nl ?_; simp only [go_sem])
            exact LeA.of_eq (by rw [hs2]; simp [nrV])
        · have k2 : decide (bt l k ≥ 48) = true := decide_eq_true (by omega)
          have k3 : decide (bt l k ≤ 57) = false := decide_eq_false (by omega)
          have hs2 := s.stop (.inr (.inr (by rw [hsk]; exact hd))) (-1)
          rw [hV] at hs2
          rw [hsk, hsn] at hs2
          by_cases hks : k = st
          · have k5 : ((k : Int) == (st : Int)) = true := by rw [hks]; simp
            rw [if_pos hks] at hs2
            repeat' (first
             | (with_reducible first | refine nx ?_ | refine t_seq fun K => ?_ | refine t_br (fun hc => ?_) fun hc => ?_ | refine t_bx ?_ | apply And.intro | intro vr)
             | ((with_reducible first | refine ny ?_ | refine t_dwh (h := fun K KL => ?_)); intros; simp only [go_sem, kp23, geff, k1, k2, k3, k5, Int.toNat_natCast, yes]))
            all_goals try exact nd
            all_goals (refine nl ?_; simp only [go_sem])
            all_goals exact LeA.of_eq (by rw [hs2]; rfl)
          · have k5 : ((k : Int) == (st : Int)) = false := by simp; omega
            rw [if_neg hks] at hs2
            repeat' (first
             | (with_reducible first | refine nx ?_ | refine t_seq fun K => ?_ | refine t_br (fun hc => ?_) fun hc => ?_ | refine t_bx ?_ | apply And.intro | intro vr)
             | ((with_reducible first | refine ny ?_ | refine t_dwh (h := fun K KL => ?_)); intros; simp only [go_sem, kp23, geff, k1, k2, k3, k5, Int.toNat_natCast, yes]))
            all_goals try exact nd
            all_goals (refine nl ?_; simp only [go_sem])
            exact LeA.of_eq (by rw [hs2]; simp [nrV])
    · have k1 : decide ((k : Int) < (l.length : Int)) = false := decide_eq_false (by omega)
      have hs2 := s.stop (.inl (by omega)) (-1)
      rw [hV] at hs2
      rw [hsk, hsn] at hs2
      by_cases hks : k = st
      · have k5 : ((k : Int) == (st : Int)) = true := by rw [hks]; simp
        rw [if_pos hks] at hs2
        repeat' (first
         | (with_reducible first | refine nx ?_ | refine t_seq fun K => ?_ | refine t_br (fun hc => ?_) fun hc => ?_ | refine t_bx ?_ | apply And.intro | intro vr)
         | ((with_reducible first | refine ny ?_ | refine t_dwh (h := fun K KL => ?_)); intros; simp only [go_sem, kp23, geff, k1, k5, Int.toNat_natCast, yes]))
        all_goals try exact nd
        all_goals (refine nl ?_; simp only [go_sem])
        all_goals exact LeA.of_eq (by rw [hs2]; rfl)
      · have k5 : ((k : Int) == (st : Int)) = false := by simp; omega
        rw [if_neg hks] at hs2
        repeat' (first
         | (with_reducible first | refine nx ?_ | refine t_seq fun K => ?_ | refine t_br (fun hc => ?_) fun hc => ?_ | refine t_bx ?_ | apply And.intro | intro vr)
         | ((with_reducible first | refine ny ?_ | refine t_dwh (h := fun K KL => ?_)); intros; simp only [go_sem, kp23, geff, k1, k5, Int.toNat_natCast, yes]))
        all_goals try exact nd
        all_goals (refine nl ?_; simp only [go_sem])
        exact LeA.of_eq (by rw [hs2]; simp [nrV])
  · rw [decide_eq_false h45] at z1
    rw [num_pos h45] at hV
    have hst0 : i ≤ l.length := by omega
    refine pcR N23_ok (kp23) Tryd.func23 [.tmp 4, .tmp 5] (h := fun KF => ?_)
    unfold N23
    repeat' (first
     | (with_reducible first | refine nx ?_ | refine t_seq fun K => ?_ | refine t_br (fun hc => ?_) fun hc => ?_ | refine t_bx ?_ | apply And.intro | intro vr)
     | ((with_reducible first | refine ny ?_ | refine t_dwh (h := fun K KL => ?_)); intros; simp only [go_sem, kp23, geff, z0, z1, Int.toNat_natCast]))
    all_goals try exact nd
    generalize i = st at *
    refine t_loopF (ι := Ng l st) (fun i => [(9, .lit (.int .i64 (i.k : Int))), (8, .lit (.int .i64 (i.n : Int)))]) (fun i => []) (fun i => l.length - i.k) ⟨st, 0, Nat.le_refl _, hst0, by omega, by simp, by simp⟩ ?_ ?_
    · exact lf
    rintro ⟨k, n, h1, h2, h3, hn, h⟩ K0
    have s : Σ' s : Ng l st, s.k = k ∧ s.n = n := ⟨⟨k, n, h1, h2, h3, hn, h⟩, rfl, rfl⟩
    obtain ⟨s, hsk, hsn⟩ := s
    have hn2 : n < 1000000000000 := Nat.lt_of_lt_of_le hn (pow12 h3)
    rcases Nat.lt_or_ge k l.length with hc | hc
    · have k1 : decide ((k : Int) < (l.length : Int)) = true := decide_eq_true (by omega)
      have hbt : bt l k = (((l.getD k 0).toNat : Nat) : Int) := rfl
      have h256 : (l.getD k 0).toNat < 256 := UInt8.toNat_lt _
      by_cases hd : 48 ≤ (l.getD k 0).toNat ∧ (l.getD k 0).toNat ≤ 57
      · have k2 : decide (bt l k ≥ 48) = true := decide_eq_true (by omega)
        have k3 : decide (bt l k ≤ 57) = true := decide_eq_true (by omega)
        by_cases h12 : k - st < 12
        · have k4 : decide ((k : Int) - (st : Int) < 12) = true := decide_eq_true (by omega)
          obtain ⟨s2, e1, e2⟩ := s.step (by rw [hsk]; exact hc) (by rw [hsk]; exact h12) (by rw [hsk]; exact hd)
          rw [hsk] at e1 e2
          rw [hsn] at e2
          have hw : IntKind.u8.wrap (bt l k - 48) = bt l k - 48 := by rw [IntKind.wrap_u8]; omega
          have hw2 : IntKind.i64.wrap (bt l k - 48) = bt l k - 48 := by rw [IntKind.wrap_i64]; omega
          have hv : (10 : Int) * (n : Int) + (bt l k - 48) = ((s2.n : Nat) : Int) := by omega
          have hk2 : (k : Int) + 1 = ((s2.k : Nat) : Int) := by omega
          repeat' (first
           | (with_reducible first | refine nx ?_ | refine t_seq fun K => ?_ | refine t_br (fun hc => ?_) fun hc => ?_ | refine t_bx ?_ | apply And.intro | intro vr)
           | ((with_reducible first | refine ny ?_ | refine t_dwh (h := fun K KL => ?_)); intros; simp only [go_sem, kp23, geff, k1, k2, k3, k4, hw, hw2, Int.toNat_natCast, yes]))
          all_goals try exact nd
          refine ⟨s2, by simp only; omega, ?_⟩
          simp only [hv, hk2]
          first | exact lf | (refine Le.frameS (by first | rfl | (simp only [go_sem]; try rfl)) ?_; repeat' (first | exact leF_top _ | exact (fun _ => LeR.refl _) | (with_reducible refine leF_sl ?_ ?_) | (refine leF_upd ?_ ?_))) <;> (first | exact LeR.top _ | exact LeR.refl _ | (refine LeR.of_eq ?_; (try simp only [go_sem]); try rfl) | ((try simp only [go_sem]); try rfl))
        · have k4 : decide ((k : Int) - (st : Int) < 12) = false := decide_eq_false (by omega)
          have hs2 := s.stop (.inr (.inl (by omega))) 1
          rw [hV] at hs2
          rw [hsk, hsn] at hs2
          by_cases hks : k = st
          · have k5 : ((k : Int) == (st : Int)) = true := by rw [hks]; simp
            rw [if_pos hks] at hs2
            repeat' (first
             | (with_reducible first | refine nx ?_ | refine t_seq fun K => ?_ | refine t_br (fun hc => ?_) fun hc => ?_ | refine t_bx ?_ | apply And.intro | intro vr)
             | ((with_reducible first | refine ny ?_ | refine t_dwh (h := fun K KL => ?_)); intros; simp only [go_sem, kp23, geff, k1, k2, k3, k4, k5, Int.toNat_natCast, yes]))
            all_goals try exact nd
            all_goals (refine nl ?_; simp only [go_sem])
            all_goals exact LeA.of_eq (by rw [hs2]; rfl)
          · have k5 : ((k : Int) == (st : Int)) = false := by simp; omega
            rw [if_neg hks] at hs2
            repeat' (first
             | (with_reducible first | refine nx ?_ | refine t_seq fun K => ?_ | refine t_br (fun hc => ?_) fun hc => ?_ | refine t_bx ?_ | apply And.intro | intro vr)
             | ((with_reducible first | refine ny ?_ | refine t_dwh (h := fun K KL => ?_)); intros; simp only [go_sem, kp23, geff, k1, k2, k3, k4, k5, Int.toNat_natCast, yes]))
            all_goals try exact nd
            all_goals (refine nl ?_; simp only [go_sem])
            exact LeA.of_eq (by rw [hs2]; simp [nrV])
      · by_cases h48 : (l.getD k 0).toNat < 48
        · have k2 : decide (bt l k ≥ 48) = false := decide_eq_false (by omega)
          have hs2 := s.stop (.inr (.inr (by rw [hsk]; exact hd))) 1
          rw [hV] at hs2
          rw [hsk, hsn] at hs2
          by_cases hks : k = st
          · have k5 : ((k : Int) == (st : Int)) = true := by rw [hks]; simp
            rw [if_pos hks] at hs2
            repeat' (first
             | (with_reducible first | refine nx ?_ | refine t_seq fun K => ?_ | refine t_br (fun hc => ?_) fun hc => ?_ | refine t_bx ?_ | apply And.intro | intro vr)
             | ((with_reducible first | refine ny ?_ | refine t_dwh (h := fun K KL => ?_)); intros; simp only [go_sem, kp23, geff, k1, k2, k5, Int.toNat_natCast, yes]))
            all_goals try exact nd
            all_goals (refine nl ?_; simp only [go_sem])
            all_goals exact LeA.of_eq (by rw [hs2]; rfl)
          · have k5 : ((k : Int) == (st : Int)) = false := by simp; omega
            rw [if_neg hks] at hs2
            repeat' (first
             | (with_reducible first | refine nx ?_ | refine t_seq fun K => ?_ | refine t_br (fun hc => ?_) fun hc => ?_ | refine t_bx ?_ | apply And.intro | intro vr)
             | ((with_reducible first | refine ny ?_ | refine t_dwh (h := fun K KL => ?_)); intros; simp only [go_sem, kp23, geff, k1, k2, k5, Int.toNat_natCast, yes]))
            all_goals try exact nd
            all_goals (refine nl ?_; simp only [go_sem])
            exact LeA.of_eq (by rw [hs2]; simp [nrV])
        · have k2 : decide (bt l k ≥ 48) = true := decide_eq_true (by omega)
          have k3 : decide (bt l k ≤ 57) = false := decide_eq_false (by omega)
          have hs2 := s.stop (.inr (.inr (by rw [hsk]; exact hd))) 1
          rw [hV] at hs2
          rw [hsk, hsn] at hs2
          by_cases hks : k = st
          · have k5 : ((k : Int) == (st : Int)) = true := by rw [hks]; simp
            rw [if_pos hks] at hs2
            repeat' (first
             | (with_reducible first | refine nx ?_ | refine t_seq fun K => ?_ | refine t_br (fun hc => ?_) fun hc => ?_ | refine t_bx ?_ | apply And.intro | intro vr)
             | ((with_reducible first | refine ny ?_ | refine t_dwh (h := fun K KL => ?_)); intros; simp only [go_sem, kp23, geff, k1, k2, k3, k5, Int.toNat_natCast, yes]))
            all_goals try exact nd
            all_goals (refine nl ?_; simp only [go_sem])
            all_goals exact LeA.of_eq (by rw [hs2]; rfl)
          · have k5 : ((k : Int) == (st : Int)) = false := by simp; omega
            rw [if_neg hks] at hs2
            repeat' (first
             | (with_reducible first | refine nx ?_ | refine t_seq fun K => ?_ | refine t_br (fun hc => ?_) fun hc => ?_ | refine t_bx ?_ | apply And.intro | intro vr)
             | ((with_reducible first | refine ny ?_ | refine t_dwh (h := fun K KL => ?_)); intros; simp only [go_sem, kp23, geff, k1, k2, k3, k5, Int.toNat_natCast, yes]))
            all_goals try exact nd
            all_goals (refine nl ?_; simp only [go_sem])
            exact LeA.of_eq (by rw [hs2]; simp [nrV])
    · have k1 : decide ((k : Int) < (l.length : Int)) = false := decide_eq_false (by omega)
      have hs2 := s.stop (.inl (by omega)) 1
      rw [hV] at hs2
      rw [hsk, hsn] at hs2
      by_cases hks : k = st
      · have k5 : ((k : Int) == (st : Int)) = true := by rw [hks]; simp
        rw [if_pos hks] at hs2
        repeat' (first
         | (with_reducible first | refine nx ?_ | refine t_seq fun K => ?_ | refine t_br (fun hc => ?_) fun hc => ?_ | refine t_bx ?_ | apply And.intro | intro vr)
         | ((with_reducible first | refine ny ?_ | refine t_dwh (h := fun K KL => ?_)); intros; simp only [go_sem, kp23, geff, k1, k5, Int.toNat_natCast, yes]))
        all_goals try exact nd
        all_goals (refine nl ?_; simp only [go_sem])
        all_goals exact LeA.of_eq (by rw [hs2]; rfl)
      · have k5 : ((k : Int) == (st : Int)) = false := by simp; omega
        rw [if_neg hks] at hs2
        repeat' (first
         | (with_reducible first | refine nx ?_ | refine t_seq fun K => ?_ | refine t_br (fun hc => ?_) fun hc => ?_ | refine t_bx ?_ | apply And.intro | intro vr)
         | ((with_reducible first | refine ny ?_ | refine t_dwh (h := fun K KL => ?_)); intros; simp only [go_sem, kp23, geff, k1, k5, Int.toNat_natCast, yes]))
        all_goals try exact nd
        all_goals (refine nl ?_; simp only [go_sem])
        exact LeA.of_eq (by rw [hs2]; simp [nrV])
noncomputable def con23 : PCon Tryd.prog where
  f := 23
  c := fun
    | [.lit (.string s), .lit (.int .i64 i)] => some ((ul s).length ≤ 1000000 ∧ 0 ≤ i ∧ i < (ul s).length, nrV (numR (ul s) i.toNat))
    | _ => none
  ok := by
    intro args p r hc hp
    split at hc
    · rename_i s i
      obtain ⟨l, rfl⟩ := bs_ex s
      cases hc
      rw [ul_bs] at *
      obtain ⟨h1, h2, h3⟩ := hp
      have h := number_pc (l := l) (i := i.toNat) h1 (by omega)
      rw [show ((i.toNat : Nat) : Int) = i by omega] at h
      exact h
    · cases hc
  fk := fk23
theorem con23_f : con23.f = 23 := rfl
theorem con23_c {l : List UInt8} {i : Int} : con23.c [.lit (.string (bs l)), .lit (.int .i64 i)] = some (l.length ≤ 1000000 ∧ 0 ≤ i ∧ i < l.length, nrV (numR l i.toNat)) := by
  show some ((ul (bs l)).length ≤ 1000000 ∧ 0 ≤ i ∧ i < (ul (bs l)).length, nrV (numR (ul (bs l)) i.toNat)) = _
  rw [ul_bs]
attribute [go_sem] con23_f con23_c
end Go.Proofs.YtdndgmcmmbjjkaaDoor.Tx

/- The document's Parse. -/
namespace Go.Proofs.YtdndgmcmmbjjkaaDoor.Tx
open Go.Proofs.YtdndgmcmmbjjkaaDoor
open Go Go.Fw
set_option maxRecDepth 20000
/-- The numbers of the two parts, from a place on. -/
def rpS (l : List UInt8) : Nat → Nat → Bool → List Int → List Int → Option (List Int × List Int)
  | 0, _, _, d, x => some (d, x)
  | f + 1, i, p, d, x =>
    if l.length ≤ i then some (d, x)
    else if l.getD i 0 = 93 then some (d, x)
    else if l.getD i 0 = 58 ∧ p = false then rpS l f (i + 1) true d x
    else if l.getD i 0 = 32 then rpS l f (i + 1) p d x
    else if (numR l i).2 < 0 then none
    else if p = false then rpS l f (numR l i).2.toNat p (d ++ [(numR l i).1]) x
    else rpS l f (numR l i).2.toNat p d (x ++ [(numR l i).1])
theorem dgs_le : ∀ (f n : Nat) (l : List UInt8), (dgs f n l).2 ≤ l.length
  | 0, _, _ => Nat.zero_le _
  | _ + 1, _, [] => Nat.zero_le _
  | f + 1, n, c :: r => by
    unfold dgs
    split
    · have := dgs_le f (10 * n + (c.toNat - 48)) r
      simp only [List.length_cons]; omega
    · exact Nat.zero_le _
theorem numR_bd {l : List UInt8} {i : Nat} (hi : i < l.length) (h : ¬ (numR l i).2 < 0) : i + 1 ≤ (numR l i).2.toNat ∧ (numR l i).2.toNat ≤ l.length ∧ 0 ≤ (numR l i).2 := by
  unfold numR at h ⊢
  have h1 := dgs_le 12 0 (l.drop (i + 1))
  have h2 := dgs_le 12 0 (l.drop i)
  rw [List.length_drop] at h1 h2
  split at h
  · rename_i h45
    rw [if_pos h45]
    split at h
    · simp at h
    · rename_i h0
      rw [if_neg h0]
      simp only [Int.toNat_natCast]
      omega
  · rename_i h45
    rw [if_neg h45]
    split at h
    · simp at h
    · rename_i h0
      rw [if_neg h0]
      simp only [Int.toNat_natCast]
      omega
def rElem (l : List UInt8) : ByteArray := if l.length > 2 ∧ l.getD 1 0 = 98 then sBool else sInt
def rAt (l : List UInt8) : Nat := if l.length > 2 ∧ l.getD 1 0 = 98 then 3 else 2
def pre2 (l : List UInt8) : Option Arr := (rpS l (l.length + 1) (rAt l) false [] []).map fun p => ⟨rElem l, p.1, p.2⟩
theorem bt98 {l : List UInt8} {i : Nat} {c : UInt8} {n : Int} (hc : (c.toNat : Int) = n) : (bt l i == n) = decide (l.getD i 0 = c) := by
  unfold bt
  rw [Bool.eq_iff_iff]
  simp only [beq_iff_eq, decide_eq_true_eq]
  constructor
  · intro e; exact UInt8.toNat_inj.1 (by omega)
  · intro e; rw [e]; exact hc
theorem bn98 {l : List UInt8} {i : Nat} {c : UInt8} {n : Int} (hc : (c.toNat : Int) = n) : (bt l i != n) = !decide (l.getD i 0 = c) := by
  rw [← bt98 hc]; rfl
def pI (p : Bool) : Int := if p = true then 1 else 0
structure Rp (l : List UInt8) (R : Option (List Int × List Int)) where
  i : Nat
  p : Bool
  d : List Int
  x : List Int
  v1 : Nat
  v2 : Nat
  f : Nat
  hf : l.length ≤ i + f
  hd : d.length + x.length ≤ i
  hi : i ≤ l.length + 3
  h : rpS l (f + 1) i p d x = R
noncomputable def P10 : Env := envJ (P := Tryd.prog) jkA zer (fun _ => false) (fun _ => false) [con23, con24, con7] []
theorem P10_ok : EnvOk Tryd.prog P10 := envJOk zer_ok
theorem nrV_def (p : Int × Int) : nrV p = .tup [.lit (.int .i64 p.1), .lit (.int .i64 p.2)] := rfl
theorem fin_5 {a : Arr} {l : List UInt8} (h : ((ofS a).2 != 0 || (pE (ofS a).1 != 0) || !(pT (ofS a).1 == l)) = true) : fin (some a) l = (nilA, 6) := by
  refine fin_n fun b hb hq => ?_
  cases hb
  have e : (ofS a).1 = a := by unfold ofS; rw [if_pos hq.1]
  rw [e, ofS_2] at h
  unfold pE pT at h
  rw [if_pos hq.1, if_pos hq.1, hq.1, hq.2] at h
  simp at h
theorem fin_6 {a : Arr} {l : List UInt8} (h : ((ofS a).2 != 0 || (pE (ofS a).1 != 0) || !(pT (ofS a).1 == l)) = false) : fin (some a) l = ((ofS a).1, 0) := by
  simp only [Bool.or_eq_false_iff] at h
  have h1 : ofE a = 0 := by have := h.1.1; rw [ofS_2] at this; simpa using this
  have e : (ofS a).1 = a := by unfold ofS; rw [if_pos h1]
  have h2 := h.2
  rw [e] at h2 ⊢
  unfold pT at h2
  rw [if_pos h1] at h2
  have h3 : textA a = l := by simpa using h2
  unfold fin
  simp only
  rw [if_pos ⟨h1, h3⟩]
theorem rp_end {l : List UInt8} {f i : Nat} {p : Bool} {d x : List Int} (h : l.length ≤ i ∨ l.getD i 0 = 93) : rpS l (f + 1) i p d x = some (d, x) := by
  unfold rpS
  by_cases hl : l.length ≤ i
  · rw [if_pos hl]
  · rw [if_neg hl, if_pos (h.resolve_left hl)]
theorem rp_58 {l : List UInt8} {f i : Nat} {d x : List Int} (hl : ¬ l.length ≤ i) (h : ¬ l.getD i 0 = 93) (h58 : l.getD i 0 = 58) : rpS l (f + 1) i false d x = rpS l f (i + 1) true d x := by
  rw [rpS, if_neg hl, if_neg h, if_pos ⟨h58, rfl⟩]
theorem rp_32 {l : List UInt8} {f i : Nat} {p : Bool} {d x : List Int} (hl : ¬ l.length ≤ i) (h : ¬ l.getD i 0 = 93) (h58 : ¬ (l.getD i 0 = 58 ∧ p = false)) (h32 : l.getD i 0 = 32) : rpS l (f + 1) i p d x = rpS l f (i + 1) p d x := by
  rw [rpS, if_neg hl, if_neg h, if_neg h58, if_pos h32]
theorem rp_bad {l : List UInt8} {f i : Nat} {p : Bool} {d x : List Int} (hl : ¬ l.length ≤ i) (h : ¬ l.getD i 0 = 93) (h58 : ¬ (l.getD i 0 = 58 ∧ p = false)) (h32 : ¬ l.getD i 0 = 32) (hq : (numR l i).2 < 0) : rpS l (f + 1) i p d x = none := by
  rw [rpS, if_neg hl, if_neg h, if_neg h58, if_neg h32, if_pos hq]
theorem rp_num {l : List UInt8} {f i m : Nat} {p : Bool} {d x : List Int} {n : Int} (hl : ¬ l.length ≤ i) (h : ¬ l.getD i 0 = 93) (h58 : ¬ (l.getD i 0 = 58 ∧ p = false)) (h32 : ¬ l.getD i 0 = 32) (hq : numR l i = (n, (m : Int))) :
    rpS l (f + 1) i p d x = rpS l f m p (if p = false then d ++ [n] else d) (if p = false then x else x ++ [n]) := by
  rw [rpS, if_neg hl, if_neg h, if_neg h58, if_neg h32, hq]
  simp only [Int.toNat_natCast]
  rw [if_neg (by omega)]
  cases p <;> simp
theorem pI_t : pI true = 1 := rfl
theorem pI_f : pI false = 0 := rfl
theorem ints_snoc (l : List Int) (n : Int) : ints .i64 l ++ [.lit (.int .i64 n)] = ints .i64 (l ++ [n]) := by simp [ints]
attribute [go_sem] pI_t pI_f
set_option maxHeartbeats 8000000 in
theorem rparse_pc {l : List UInt8} (hl : l.length ≤ 200000) : PC Tryd.prog 10 [.lit (.string (bs l))] (aeV (fin (pre2 l) l)) := by
  have hsi : (⟨#[105, 110, 116]⟩ : ByteArray) = sInt := rfl
  have hsb : (⟨#[98, 111, 111, 108]⟩ : ByteArray) = sBool := rfl
  have z1 : decide ((l.length : Int) > 2) = decide (l.length > 2) := by simp; omega
  have z2 := bt98 (l := l) (i := 1) (c := 98) (n := 98) rfl
  generalize hV : fin (pre2 l) l = V
  unfold pre2 at hV
  by_cases h : l.length > 2 ∧ l.getD 1 0 = 98
  · have hE : rElem l = sBool := if_pos h
    have hA : rAt l = 3 := if_pos h
    rw [decide_eq_true h.2] at z2
    rw [decide_eq_true h.1] at z1
    rw [hE, hA] at hV
    generalize hR : rpS l (l.length + 1) 3 false [] [] = R at hV
    refine pcR P10_ok (kp10) Tryd.func10 [.cell 2 24, .tmp 3] (h := fun KF => ?_)
    unfold P10
    repeat' (first
     | (with_reducible first | refine nx ?_ | refine t_seq fun K => ?_ | refine t_br (fun hc => ?_) fun hc => ?_ | refine t_bx ?_ | apply And.intro | intro vr)
     | ((with_reducible first | refine ny ?_ | refine t_dwh (h := fun K KL => ?_)); intros; simp only [go_sem, kp10, geff, z1, z2, hsi, hsb]))
    all_goals try exact nd
    refine t_loopF (ι := Rp l R) (fun i => [(7, .lit (.int .i64 (pI i.p))), (5, .lit (.int .i64 i.i))]) (fun i => [.box 24 [.lit (.string (bs [])), .sl true 1 [], .sl true 1 []], .box 49 [.arr 2 i.v1, .arr 3 i.v2], .arr 3 1 (ints .i64 i.d) i.v1 false, .arr 3 1 (ints .i64 i.x) i.v2 false]) (fun i => l.length - i.i) ⟨3, false, [], [], 0, 0, l.length, by omega, by simp, by omega, hR⟩ ?_ ?_
    · refine (le_nilB 1 0 3 1 (cs := [.sl true 1 [], .sl true 1 []]) rfl (by simp) nil_sl).trans ?_
      refine (le_nilB 1 1 3 1 (cs := [.arr 2 0, .sl true 1 []]) rfl (by simp) nil_sl).trans ?_
      simp only [updL_nil, updL_cons, delF_top, delF_upd, Nat.reduceEqDiff, reduceIte]
      simp only [ints_nil]
      refine Le.frameS (by first | rfl | (simp only [go_sem]; try rfl)) ?_
      repeat' (first | exact leF_top _ | exact (fun _ => LeR.refl _) | (with_reducible refine leF_sl ?_ ?_) | (refine leF_upd ?_ ?_))
      all_goals (first | exact LeR.top _ | exact LeR.refl _ | (refine LeR.of_eq ?_; (try simp only [go_sem]); try rfl) | ((try simp only [go_sem]); try rfl))
    rintro ⟨i, p, d, x, v1, v2, f, hf, hd, hi, hF⟩ K0
    rcases Nat.lt_or_ge i l.length with hc | hc
    · have k1 : decide ((i : Int) < (l.length : Int)) = true := decide_eq_true (by omega)
      have n93 := bn98 (l := l) (i := i) (c := 93) (n := 93) rfl
      have n58 := bt98 (l := l) (i := i) (c := 58) (n := 58) rfl
      have n32 := bt98 (l := l) (i := i) (c := 32) (n := 32) rfl
      have hi1 : (i : Int) + 1 = ((i + 1 : Nat) : Int) := by omega
      by_cases h93 : l.getD i 0 = 93
      · rw [decide_eq_true h93] at n93
        rw [rp_end (.inr h93)] at hF
        subst hF
        simp only [Option.map_some] at hV
        generalize hX : ((ofS ⟨sBool, d, x⟩).2 != 0 || (pE (ofS ⟨sBool, d, x⟩).1 != 0) || !(pT (ofS ⟨sBool, d, x⟩).1 == l)) = X
        have hl2 := okA_ofS (a := ⟨sBool, d, x⟩) (by simp only; omega) (by simp only; omega)
        repeat' (first
         | (with_reducible first | refine nx ?_ | refine t_seq fun K => ?_ | refine t_br (fun hc => ?_) fun hc => ?_ | refine t_bx ?_ | apply And.intro | intro vr)
         | ((with_reducible first | refine ny ?_ | refine t_dwh (h := fun K KL => ?_)); intros; simp only [go_sem, kp10, geff, k1, n93, con24_f, con24_c, con7_f, con7_c, slK_sl, arrV_def, arrOf_agg, aeV_def, arr_eta, printT_sym, hX, yes]))
        all_goals try exact nd
        all_goals (refine nl ?_; simp only [go_sem])
        · exact nil_to (by rw [← hV]; exact fin_5 (hX.trans hc))
        · exact arr_to (by rw [← hV]; exact fin_6 (hX.trans hc))
      · rw [decide_eq_false h93] at n93
        obtain ⟨f, rfl⟩ : ∃ g, f = g + 1 := ⟨f - 1, by omega⟩
        by_cases h58 : l.getD i 0 = 58 ∧ p = false
        · obtain ⟨h58, rfl⟩ := h58
          rw [decide_eq_true h58] at n58
          rw [rp_58 (by omega) h93 h58] at hF
          repeat' (first
           | (with_reducible first | refine nx ?_ | refine t_seq fun K => ?_ | refine t_br (fun hc => ?_) fun hc => ?_ | refine t_bx ?_ | apply And.intro | intro vr)
           | ((with_reducible first | refine ny ?_ | refine t_dwh (h := fun K KL => ?_)); intros; simp only [go_sem, kp10, geff, k1, n93, n58, hi1, yes]))
          all_goals try exact nd
          refine ⟨⟨i + 1, true, d, x, v1, v2, f, by omega, by omega, by omega, hF⟩, by simp only; omega, ?_⟩
          first | exact lf | (refine Le.frameS (by first | rfl | (simp only [go_sem]; try rfl)) ?_; repeat' (first | exact leF_top _ | exact (fun _ => LeR.refl _) | (with_reducible refine leF_sl ?_ ?_) | (refine leF_upd ?_ ?_))) <;> (first | exact LeR.top _ | exact LeR.refl _ | (refine LeR.of_eq ?_; (try simp only [go_sem]); try rfl) | ((try simp only [go_sem]); try rfl))
        · by_cases h32 : l.getD i 0 = 32
          · have h58' : ¬ l.getD i 0 = 58 := by rw [h32]; decide
            rw [decide_eq_true h32] at n32
            rw [decide_eq_false h58'] at n58
            rw [rp_32 (by omega) h93 h58 h32] at hF
            repeat' (first
             | (with_reducible first | refine nx ?_ | refine t_seq fun K => ?_ | refine t_br (fun hc => ?_) fun hc => ?_ | refine t_bx ?_ | apply And.intro | intro vr)
             | ((with_reducible first | refine ny ?_ | refine t_dwh (h := fun K KL => ?_)); intros; simp only [go_sem, kp10, geff, k1, n93, n58, n32, hi1, yes]))
            all_goals try exact nd
            refine ⟨⟨i + 1, p, d, x, v1, v2, f, by omega, by omega, by omega, hF⟩, by simp only; omega, ?_⟩
            first | exact lf | (refine Le.frameS (by first | rfl | (simp only [go_sem]; try rfl)) ?_; repeat' (first | exact leF_top _ | exact (fun _ => LeR.refl _) | (with_reducible refine leF_sl ?_ ?_) | (refine leF_upd ?_ ?_))) <;> (first | exact LeR.top _ | exact LeR.refl _ | (refine LeR.of_eq ?_; (try simp only [go_sem]); try rfl) | ((try simp only [go_sem]); try rfl))
          · rw [decide_eq_false h32] at n32
            have hP : p = true ∨ l.getD i 0 ≠ 58 := by
              cases p with
              | true => exact .inl rfl
              | false => exact .inr fun e => h58 ⟨e, rfl⟩
            have n58' : p = false → (bt l i == 58) = false := fun hp => by
              rw [n58]; exact decide_eq_false (hP.resolve_left (by rw [hp]; decide))
            generalize hB : decide (l.getD i 0 = 58) = B at n58
            by_cases hq : (numR l i).2 < 0
            · have kq : decide ((numR l i).2 < 0) = true := decide_eq_true hq
              rw [rp_bad (by omega) h93 h58 h32 hq] at hF
              subst hF
              have hV2 : (nilA, (6 : Int)) = V := hV
              cases p
              · have n58 := n58' rfl
                repeat' (first
                 | (with_reducible first | refine nx ?_ | refine t_seq fun K => ?_ | refine t_br (fun hc => ?_) fun hc => ?_ | refine t_bx ?_ | apply And.intro | intro vr)
                 | ((with_reducible first | refine ny ?_ | refine t_dwh (h := fun K KL => ?_)); intros; simp only [go_sem, kp10, geff, k1, n93, n58, n32, kq, con23_f, con23_c, con24_f, con7_f, nrV_def, Int.toNat_natCast, yes]))
                all_goals try exact nd
                all_goals (refine nl ?_; simp only [go_sem])
                exact nil_to hV2.symm
              · have c10 : ((1 : Int) == 0) = false := rfl
                repeat' (first
                 | (with_reducible first | refine nx ?_ | refine t_seq fun K => ?_ | refine t_br (fun hc => ?_) fun hc => ?_ | refine t_bx ?_ | apply And.intro | intro vr)
                 | ((with_reducible first | refine ny ?_ | refine t_dwh (h := fun K KL => ?_)); intros; simp only [go_sem, kp10, geff, k1, n93, n58, n32, kq, c10, con23_f, con23_c, con24_f, con7_f, nrV_def, Int.toNat_natCast, Bool.and_false, yes]))
                all_goals try exact nd
                all_goals (refine nl ?_; simp only [go_sem])
                exact nil_to hV2.symm
            · obtain ⟨b1, b2, b3⟩ := numR_bd hc hq
              obtain ⟨n, m, hqe⟩ : ∃ (n : Int) (m : Nat), numR l i = (n, (m : Int)) := ⟨(numR l i).1, (numR l i).2.toNat, by rw [Int.toNat_of_nonneg b3]⟩
              rw [hqe] at b1 b2 hq
              simp only [Int.toNat_natCast] at b1 b2
              have kq : decide ((m : Int) < 0) = false := decide_eq_false (by omega)
              rw [rp_num (by omega) h93 h58 h32 hqe] at hF
              cases p
              · have n58 := n58' rfl
                rw [if_pos rfl, if_pos rfl] at hF
                repeat' (first
                 | (with_reducible first | refine nx ?_ | refine t_seq fun K => ?_ | refine t_br (fun hc => ?_) fun hc => ?_ | refine t_bx ?_ | apply And.intro | intro vr)
                 | ((with_reducible first | refine ny ?_ | refine t_dwh (h := fun K KL => ?_)); intros; simp only [go_sem, kp10, geff, k1, n93, n58, n32, kq, hqe, con23_f, con23_c, con24_f, con7_f, nrV_def, ints_snoc, Int.toNat_natCast, yes]))
                all_goals try exact nd
                refine ⟨⟨m, false, d ++ [n], x, v1 + 1, v2, f, by omega, by simp only [List.length_append, List.length_singleton]; omega, by omega, hF⟩, by simp only; omega, ?_⟩
                first | exact lf | (refine Le.frameS (by first | rfl | (simp only [go_sem]; try rfl)) ?_; repeat' (first | exact leF_top _ | exact (fun _ => LeR.refl _) | (with_reducible refine leF_sl ?_ ?_) | (refine leF_upd ?_ ?_))) <;> (first | exact LeR.top _ | exact LeR.refl _ | (refine LeR.of_eq ?_; (try simp only [go_sem]); try rfl) | ((try simp only [go_sem]); try rfl))
              · have c10 : ((1 : Int) == 0) = false := rfl
                rw [if_neg (by decide), if_neg (by decide)] at hF
                repeat' (first
                 | (with_reducible first | refine nx ?_ | refine t_seq fun K => ?_ | refine t_br (fun hc => ?_) fun hc => ?_ | refine t_bx ?_ | apply And.intro | intro vr)
                 | ((with_reducible first | refine ny ?_ | refine t_dwh (h := fun K KL => ?_)); intros; simp only [go_sem, kp10, geff, k1, n93, n58, n32, kq, hqe, c10, con23_f, con23_c, con24_f, con7_f, nrV_def, ints_snoc, Int.toNat_natCast, Bool.and_false, yes]))
                all_goals try exact nd
                refine ⟨⟨m, true, d, x ++ [n], v1, v2 + 1, f, by omega, by simp only [List.length_append, List.length_singleton]; omega, by omega, hF⟩, by simp only; omega, ?_⟩
                first | exact lf | (refine Le.frameS (by first | rfl | (simp only [go_sem]; try rfl)) ?_; repeat' (first | exact leF_top _ | exact (fun _ => LeR.refl _) | (with_reducible refine leF_sl ?_ ?_) | (refine leF_upd ?_ ?_))) <;> (first | exact LeR.top _ | exact LeR.refl _ | (refine LeR.of_eq ?_; (try simp only [go_sem]); try rfl) | ((try simp only [go_sem]); try rfl))
    · have k1 : decide ((i : Int) < (l.length : Int)) = false := decide_eq_false (by omega)
      rw [rp_end (.inl hc)] at hF
      subst hF
      simp only [Option.map_some] at hV
      generalize hX : ((ofS ⟨sBool, d, x⟩).2 != 0 || (pE (ofS ⟨sBool, d, x⟩).1 != 0) || !(pT (ofS ⟨sBool, d, x⟩).1 == l)) = X
      have hl2 := okA_ofS (a := ⟨sBool, d, x⟩) (by simp only; omega) (by simp only; omega)
      repeat' (first
       | (with_reducible first | refine nx ?_ | refine t_seq fun K => ?_ | refine t_br (fun hc => ?_) fun hc => ?_ | refine t_bx ?_ | apply And.intro | intro vr)
       | ((with_reducible first | refine ny ?_ | refine t_dwh (h := fun K KL => ?_)); intros; simp only [go_sem, kp10, geff, k1, con24_f, con24_c, con7_f, con7_c, slK_sl, arrV_def, arrOf_agg, aeV_def, arr_eta, printT_sym, hX, yes]))
      all_goals try exact nd
      all_goals (refine nl ?_; simp only [go_sem])
      · exact nil_to (by rw [← hV]; exact fin_5 (hX.trans hc))
      · exact arr_to (by rw [← hV]; exact fin_6 (hX.trans hc))
  · have hE : rElem l = sInt := if_neg h
    have hA : rAt l = 2 := if_neg h
    rw [hE, hA] at hV
    by_cases h2 : l.length > 2
    · rw [decide_eq_false (fun e => h ⟨h2, e⟩)] at z2
      rw [decide_eq_true h2] at z1
      generalize hR : rpS l (l.length + 1) 2 false [] [] = R at hV
      refine pcR P10_ok (kp10) Tryd.func10 [.cell 2 24, .tmp 3] (h := fun KF => ?_)
      unfold P10
      repeat' (first
       | (with_reducible first | refine nx ?_ | refine t_seq fun K => ?_ | refine t_br (fun hc => ?_) fun hc => ?_ | refine t_bx ?_ | apply And.intro | intro vr)
       | ((with_reducible first | refine ny ?_ | refine t_dwh (h := fun K KL => ?_)); intros; simp only [go_sem, kp10, geff, z1, z2, hsi, hsb]))
      all_goals try exact nd
      refine t_loopF (ι := Rp l R) (fun i => [(7, .lit (.int .i64 (pI i.p))), (5, .lit (.int .i64 i.i))]) (fun i => [.box 24 [.lit (.string (bs [])), .sl true 1 [], .sl true 1 []], .box 49 [.arr 2 i.v1, .arr 3 i.v2], .arr 3 1 (ints .i64 i.d) i.v1 false, .arr 3 1 (ints .i64 i.x) i.v2 false]) (fun i => l.length - i.i) ⟨2, false, [], [], 0, 0, l.length, by omega, by simp, by omega, hR⟩ ?_ ?_
      · refine (le_nilB 1 0 3 1 (cs := [.sl true 1 [], .sl true 1 []]) rfl (by simp) nil_sl).trans ?_
        refine (le_nilB 1 1 3 1 (cs := [.arr 2 0, .sl true 1 []]) rfl (by simp) nil_sl).trans ?_
        simp only [updL_nil, updL_cons, delF_top, delF_upd, Nat.reduceEqDiff, reduceIte]
        simp only [ints_nil]
        refine Le.frameS (by first | rfl | (simp only [go_sem]; try rfl)) ?_
        repeat' (first | exact leF_top _ | exact (fun _ => LeR.refl _) | (with_reducible refine leF_sl ?_ ?_) | (refine leF_upd ?_ ?_))
        all_goals (first | exact LeR.top _ | exact LeR.refl _ | (refine LeR.of_eq ?_; (try simp only [go_sem]); try rfl) | ((try simp only [go_sem]); try rfl))
      rintro ⟨i, p, d, x, v1, v2, f, hf, hd, hi, hF⟩ K0
      rcases Nat.lt_or_ge i l.length with hc | hc
      · have k1 : decide ((i : Int) < (l.length : Int)) = true := decide_eq_true (by omega)
        have n93 := bn98 (l := l) (i := i) (c := 93) (n := 93) rfl
        have n58 := bt98 (l := l) (i := i) (c := 58) (n := 58) rfl
        have n32 := bt98 (l := l) (i := i) (c := 32) (n := 32) rfl
        have hi1 : (i : Int) + 1 = ((i + 1 : Nat) : Int) := by omega
        by_cases h93 : l.getD i 0 = 93
        · rw [decide_eq_true h93] at n93
          rw [rp_end (.inr h93)] at hF
          subst hF
          simp only [Option.map_some] at hV
          generalize hX : ((ofS ⟨sInt, d, x⟩).2 != 0 || (pE (ofS ⟨sInt, d, x⟩).1 != 0) || !(pT (ofS ⟨sInt, d, x⟩).1 == l)) = X
          have hl2 := okA_ofS (a := ⟨sInt, d, x⟩) (by simp only; omega) (by simp only; omega)
          repeat' (first
           | (with_reducible first | refine nx ?_ | refine t_seq fun K => ?_ | refine t_br (fun hc => ?_) fun hc => ?_ | refine t_bx ?_ | apply And.intro | intro vr)
           | ((with_reducible first | refine ny ?_ | refine t_dwh (h := fun K KL => ?_)); intros; simp only [go_sem, kp10, geff, k1, n93, con24_f, con24_c, con7_f, con7_c, slK_sl, arrV_def, arrOf_agg, aeV_def, arr_eta, printT_sym, hX, yes]))
          all_goals try exact nd
          all_goals (refine nl ?_; simp only [go_sem])
          · exact nil_to (by rw [← hV]; exact fin_5 (hX.trans hc))
          · exact arr_to (by rw [← hV]; exact fin_6 (hX.trans hc))
        · rw [decide_eq_false h93] at n93
          obtain ⟨f, rfl⟩ : ∃ g, f = g + 1 := ⟨f - 1, by omega⟩
          by_cases h58 : l.getD i 0 = 58 ∧ p = false
          · obtain ⟨h58, rfl⟩ := h58
            rw [decide_eq_true h58] at n58
            rw [rp_58 (by omega) h93 h58] at hF
            repeat' (first
             | (with_reducible first | refine nx ?_ | refine t_seq fun K => ?_ | refine t_br (fun hc => ?_) fun hc => ?_ | refine t_bx ?_ | apply And.intro | intro vr)
             | ((with_reducible first | refine ny ?_ | refine t_dwh (h := fun K KL => ?_)); intros; simp only [go_sem, kp10, geff, k1, n93, n58, hi1, yes]))
            all_goals try exact nd
            refine ⟨⟨i + 1, true, d, x, v1, v2, f, by omega, by omega, by omega, hF⟩, by simp only; omega, ?_⟩
            first | exact lf | (refine Le.frameS (by first | rfl | (simp only [go_sem]; try rfl)) ?_; repeat' (first | exact leF_top _ | exact (fun _ => LeR.refl _) | (with_reducible refine leF_sl ?_ ?_) | (refine leF_upd ?_ ?_))) <;> (first | exact LeR.top _ | exact LeR.refl _ | (refine LeR.of_eq ?_; (try simp only [go_sem]); try rfl) | ((try simp only [go_sem]); try rfl))
          · by_cases h32 : l.getD i 0 = 32
            · have h58' : ¬ l.getD i 0 = 58 := by rw [h32]; decide
              rw [decide_eq_true h32] at n32
              rw [decide_eq_false h58'] at n58
              rw [rp_32 (by omega) h93 h58 h32] at hF
              repeat' (first
               | (with_reducible first | refine nx ?_ | refine t_seq fun K => ?_ | refine t_br (fun hc => ?_) fun hc => ?_ | refine t_bx ?_ | apply And.intro | intro vr)
               | ((with_reducible first | refine ny ?_ | refine t_dwh (h := fun K KL => ?_)); intros; simp only [go_sem, kp10, geff, k1, n93, n58, n32, hi1, yes]))
              all_goals try exact nd
              refine ⟨⟨i + 1, p, d, x, v1, v2, f, by omega, by omega, by omega, hF⟩, by simp only; omega, ?_⟩
              first | exact lf | (refine Le.frameS (by first | rfl | (simp only [go_sem]; try rfl)) ?_; repeat' (first | exact leF_top _ | exact (fun _ => LeR.refl _) | (with_reducible refine leF_sl ?_ ?_) | (refine leF_upd ?_ ?_))) <;> (first | exact LeR.top _ | exact LeR.refl _ | (refine LeR.of_eq ?_; (try simp only [go_sem]); try rfl) | ((try simp only [go_sem]); try rfl))
            · rw [decide_eq_false h32] at n32
              have hP : p = true ∨ l.getD i 0 ≠ 58 := by
                cases p with
                | true => exact .inl rfl
                | false => exact .inr fun e => h58 ⟨e, rfl⟩
              have n58' : p = false → (bt l i == 58) = false := fun hp => by
                rw [n58]; exact decide_eq_false (hP.resolve_left (by rw [hp]; decide))
              generalize hB : decide (l.getD i 0 = 58) = B at n58
              by_cases hq : (numR l i).2 < 0
              · have kq : decide ((numR l i).2 < 0) = true := decide_eq_true hq
                rw [rp_bad (by omega) h93 h58 h32 hq] at hF
                subst hF
                have hV2 : (nilA, (6 : Int)) = V := hV
                cases p
                · have n58 := n58' rfl
                  repeat' (first
                   | (with_reducible first | refine nx ?_ | refine t_seq fun K => ?_ | refine t_br (fun hc => ?_) fun hc => ?_ | refine t_bx ?_ | apply And.intro | intro vr)
                   | ((with_reducible first | refine ny ?_ | refine t_dwh (h := fun K KL => ?_)); intros; simp only [go_sem, kp10, geff, k1, n93, n58, n32, kq, con23_f, con23_c, con24_f, con7_f, nrV_def, Int.toNat_natCast, yes]))
                  all_goals try exact nd
                  all_goals (refine nl ?_; simp only [go_sem])
                  exact nil_to hV2.symm
                · have c10 : ((1 : Int) == 0) = false := rfl
                  repeat' (first
                   | (with_reducible first | refine nx ?_ | refine t_seq fun K => ?_ | refine t_br (fun hc => ?_) fun hc => ?_ | refine t_bx ?_ | apply And.intro | intro vr)
                   | ((with_reducible first | refine ny ?_ | refine t_dwh (h := fun K KL => ?_)); intros; simp only [go_sem, kp10, geff, k1, n93, n58, n32, kq, c10, con23_f, con23_c, con24_f, con7_f, nrV_def, Int.toNat_natCast, Bool.and_false, yes]))
                  all_goals try exact nd
                  all_goals (refine nl ?_; simp only [go_sem])
                  exact nil_to hV2.symm
              · obtain ⟨b1, b2, b3⟩ := numR_bd hc hq
                obtain ⟨n, m, hqe⟩ : ∃ (n : Int) (m : Nat), numR l i = (n, (m : Int)) := ⟨(numR l i).1, (numR l i).2.toNat, by rw [Int.toNat_of_nonneg b3]⟩
                rw [hqe] at b1 b2 hq
                simp only [Int.toNat_natCast] at b1 b2
                have kq : decide ((m : Int) < 0) = false := decide_eq_false (by omega)
                rw [rp_num (by omega) h93 h58 h32 hqe] at hF
                cases p
                · have n58 := n58' rfl
                  rw [if_pos rfl, if_pos rfl] at hF
                  repeat' (first
                   | (with_reducible first | refine nx ?_ | refine t_seq fun K => ?_ | refine t_br (fun hc => ?_) fun hc => ?_ | refine t_bx ?_ | apply And.intro | intro vr)
                   | ((with_reducible first | refine ny ?_ | refine t_dwh (h := fun K KL => ?_)); intros; simp only [go_sem, kp10, geff, k1, n93, n58, n32, kq, hqe, con23_f, con23_c, con24_f, con7_f, nrV_def, ints_snoc, Int.toNat_natCast, yes]))
                  all_goals try exact nd
                  refine ⟨⟨m, false, d ++ [n], x, v1 + 1, v2, f, by omega, by simp only [List.length_append, List.length_singleton]; omega, by omega, hF⟩, by simp only; omega, ?_⟩
                  first | exact lf | (refine Le.frameS (by first | rfl | (simp only [go_sem]; try rfl)) ?_; repeat' (first | exact leF_top _ | exact (fun _ => LeR.refl _) | (with_reducible refine leF_sl ?_ ?_) | (refine leF_upd ?_ ?_))) <;> (first | exact LeR.top _ | exact LeR.refl _ | (refine LeR.of_eq ?_; (try simp only [go_sem]); try rfl) | ((try simp only [go_sem]); try rfl))
                · have c10 : ((1 : Int) == 0) = false := rfl
                  rw [if_neg (by decide), if_neg (by decide)] at hF
                  repeat' (first
                   | (with_reducible first | refine nx ?_ | refine t_seq fun K => ?_ | refine t_br (fun hc => ?_) fun hc => ?_ | refine t_bx ?_ | apply And.intro | intro vr)
                   | ((with_reducible first | refine ny ?_ | refine t_dwh (h := fun K KL => ?_)); intros; simp only [go_sem, kp10, geff, k1, n93, n58, n32, kq, hqe, c10, con23_f, con23_c, con24_f, con7_f, nrV_def, ints_snoc, Int.toNat_natCast, Bool.and_false, yes]))
                  all_goals try exact nd
                  refine ⟨⟨m, true, d, x ++ [n], v1, v2 + 1, f, by omega, by simp only [List.length_append, List.length_singleton]; omega, by omega, hF⟩, by simp only; omega, ?_⟩
                  first | exact lf | (refine Le.frameS (by first | rfl | (simp only [go_sem]; try rfl)) ?_; repeat' (first | exact leF_top _ | exact (fun _ => LeR.refl _) | (with_reducible refine leF_sl ?_ ?_) | (refine leF_upd ?_ ?_))) <;> (first | exact LeR.top _ | exact LeR.refl _ | (refine LeR.of_eq ?_; (try simp only [go_sem]); try rfl) | ((try simp only [go_sem]); try rfl))
      · have k1 : decide ((i : Int) < (l.length : Int)) = false := decide_eq_false (by omega)
        rw [rp_end (.inl hc)] at hF
        subst hF
        simp only [Option.map_some] at hV
        generalize hX : ((ofS ⟨sInt, d, x⟩).2 != 0 || (pE (ofS ⟨sInt, d, x⟩).1 != 0) || !(pT (ofS ⟨sInt, d, x⟩).1 == l)) = X
        have hl2 := okA_ofS (a := ⟨sInt, d, x⟩) (by simp only; omega) (by simp only; omega)
        repeat' (first
         | (with_reducible first | refine nx ?_ | refine t_seq fun K => ?_ | refine t_br (fun hc => ?_) fun hc => ?_ | refine t_bx ?_ | apply And.intro | intro vr)
         | ((with_reducible first | refine ny ?_ | refine t_dwh (h := fun K KL => ?_)); intros; simp only [go_sem, kp10, geff, k1, con24_f, con24_c, con7_f, con7_c, slK_sl, arrV_def, arrOf_agg, aeV_def, arr_eta, printT_sym, hX, yes]))
        all_goals try exact nd
        all_goals (refine nl ?_; simp only [go_sem])
        · exact nil_to (by rw [← hV]; exact fin_5 (hX.trans hc))
        · exact arr_to (by rw [← hV]; exact fin_6 (hX.trans hc))
    · rw [decide_eq_false h2] at z1
      generalize hR : rpS l (l.length + 1) 2 false [] [] = R at hV
      refine pcR P10_ok (kp10) Tryd.func10 [.cell 2 24, .tmp 3] (h := fun KF => ?_)
      unfold P10
      repeat' (first
       | (with_reducible first | refine nx ?_ | refine t_seq fun K => ?_ | refine t_br (fun hc => ?_) fun hc => ?_ | refine t_bx ?_ | apply And.intro | intro vr)
       | ((with_reducible first | refine ny ?_ | refine t_dwh (h := fun K KL => ?_)); intros; simp only [go_sem, kp10, geff, z1, hsi, hsb]))
      all_goals try exact nd
      refine t_loopF (ι := Rp l R) (fun i => [(7, .lit (.int .i64 (pI i.p))), (5, .lit (.int .i64 i.i))]) (fun i => [.box 24 [.lit (.string (bs [])), .sl true 1 [], .sl true 1 []], .box 49 [.arr 2 i.v1, .arr 3 i.v2], .arr 3 1 (ints .i64 i.d) i.v1 false, .arr 3 1 (ints .i64 i.x) i.v2 false]) (fun i => l.length - i.i) ⟨2, false, [], [], 0, 0, l.length, by omega, by simp, by omega, hR⟩ ?_ ?_
      · refine (le_nilB 1 0 3 1 (cs := [.sl true 1 [], .sl true 1 []]) rfl (by simp) nil_sl).trans ?_
        refine (le_nilB 1 1 3 1 (cs := [.arr 2 0, .sl true 1 []]) rfl (by simp) nil_sl).trans ?_
        simp only [updL_nil, updL_cons, delF_top, delF_upd, Nat.reduceEqDiff, reduceIte]
        simp only [ints_nil]
        refine Le.frameS (by first | rfl | (simp only [go_sem]; try rfl)) ?_
        repeat' (first | exact leF_top _ | exact (fun _ => LeR.refl _) | (with_reducible refine leF_sl ?_ ?_) | (refine leF_upd ?_ ?_))
        all_goals (first | exact LeR.top _ | exact LeR.refl _ | (refine LeR.of_eq ?_; (try simp only [go_sem]); try rfl) | ((try simp only [go_sem]); try rfl))
      rintro ⟨i, p, d, x, v1, v2, f, hf, hd, hi, hF⟩ K0
      rcases Nat.lt_or_ge i l.length with hc | hc
      · have k1 : decide ((i : Int) < (l.length : Int)) = true := decide_eq_true (by omega)
        have n93 := bn98 (l := l) (i := i) (c := 93) (n := 93) rfl
        have n58 := bt98 (l := l) (i := i) (c := 58) (n := 58) rfl
        have n32 := bt98 (l := l) (i := i) (c := 32) (n := 32) rfl
        have hi1 : (i : Int) + 1 = ((i + 1 : Nat) : Int) := by omega
        by_cases h93 : l.getD i 0 = 93
        · rw [decide_eq_true h93] at n93
          rw [rp_end (.inr h93)] at hF
          subst hF
          simp only [Option.map_some] at hV
          generalize hX : ((ofS ⟨sInt, d, x⟩).2 != 0 || (pE (ofS ⟨sInt, d, x⟩).1 != 0) || !(pT (ofS ⟨sInt, d, x⟩).1 == l)) = X
          have hl2 := okA_ofS (a := ⟨sInt, d, x⟩) (by simp only; omega) (by simp only; omega)
          repeat' (first
           | (with_reducible first | refine nx ?_ | refine t_seq fun K => ?_ | refine t_br (fun hc => ?_) fun hc => ?_ | refine t_bx ?_ | apply And.intro | intro vr)
           | ((with_reducible first | refine ny ?_ | refine t_dwh (h := fun K KL => ?_)); intros; simp only [go_sem, kp10, geff, k1, n93, con24_f, con24_c, con7_f, con7_c, slK_sl, arrV_def, arrOf_agg, aeV_def, arr_eta, printT_sym, hX, yes]))
          all_goals try exact nd
          all_goals (refine nl ?_; simp only [go_sem])
          · exact nil_to (by rw [← hV]; exact fin_5 (hX.trans hc))
          · exact arr_to (by rw [← hV]; exact fin_6 (hX.trans hc))
        · rw [decide_eq_false h93] at n93
          obtain ⟨f, rfl⟩ : ∃ g, f = g + 1 := ⟨f - 1, by omega⟩
          by_cases h58 : l.getD i 0 = 58 ∧ p = false
          · obtain ⟨h58, rfl⟩ := h58
            rw [decide_eq_true h58] at n58
            rw [rp_58 (by omega) h93 h58] at hF
            repeat' (first
             | (with_reducible first | refine nx ?_ | refine t_seq fun K => ?_ | refine t_br (fun hc => ?_) fun hc => ?_ | refine t_bx ?_ | apply And.intro | intro vr)
             | ((with_reducible first | refine ny ?_ | refine t_dwh (h := fun K KL => ?_)); intros; simp only [go_sem, kp10, geff, k1, n93, n58, hi1, yes]))
            all_goals try exact nd
            refine ⟨⟨i + 1, true, d, x, v1, v2, f, by omega, by omega, by omega, hF⟩, by simp only; omega, ?_⟩
            first | exact lf | (refine Le.frameS (by first | rfl | (simp only [go_sem]; try rfl)) ?_; repeat' (first | exact leF_top _ | exact (fun _ => LeR.refl _) | (with_reducible refine leF_sl ?_ ?_) | (refine leF_upd ?_ ?_))) <;> (first | exact LeR.top _ | exact LeR.refl _ | (refine LeR.of_eq ?_; (try simp only [go_sem]); try rfl) | ((try simp only [go_sem]); try rfl))
          · by_cases h32 : l.getD i 0 = 32
            · have h58' : ¬ l.getD i 0 = 58 := by rw [h32]; decide
              rw [decide_eq_true h32] at n32
              rw [decide_eq_false h58'] at n58
              rw [rp_32 (by omega) h93 h58 h32] at hF
              repeat' (first
               | (with_reducible first | refine nx ?_ | refine t_seq fun K => ?_ | refine t_br (fun hc => ?_) fun hc => ?_ | refine t_bx ?_ | apply And.intro | intro vr)
               | ((with_reducible first | refine ny ?_ | refine t_dwh (h := fun K KL => ?_)); intros; simp only [go_sem, kp10, geff, k1, n93, n58, n32, hi1, yes]))
              all_goals try exact nd
              refine ⟨⟨i + 1, p, d, x, v1, v2, f, by omega, by omega, by omega, hF⟩, by simp only; omega, ?_⟩
              first | exact lf | (refine Le.frameS (by first | rfl | (simp only [go_sem]; try rfl)) ?_; repeat' (first | exact leF_top _ | exact (fun _ => LeR.refl _) | (with_reducible refine leF_sl ?_ ?_) | (refine leF_upd ?_ ?_))) <;> (first | exact LeR.top _ | exact LeR.refl _ | (refine LeR.of_eq ?_; (try simp only [go_sem]); try rfl) | ((try simp only [go_sem]); try rfl))
            · rw [decide_eq_false h32] at n32
              have hP : p = true ∨ l.getD i 0 ≠ 58 := by
                cases p with
                | true => exact .inl rfl
                | false => exact .inr fun e => h58 ⟨e, rfl⟩
              have n58' : p = false → (bt l i == 58) = false := fun hp => by
                rw [n58]; exact decide_eq_false (hP.resolve_left (by rw [hp]; decide))
              generalize hB : decide (l.getD i 0 = 58) = B at n58
              by_cases hq : (numR l i).2 < 0
              · have kq : decide ((numR l i).2 < 0) = true := decide_eq_true hq
                rw [rp_bad (by omega) h93 h58 h32 hq] at hF
                subst hF
                have hV2 : (nilA, (6 : Int)) = V := hV
                cases p
                · have n58 := n58' rfl
                  repeat' (first
                   | (with_reducible first | refine nx ?_ | refine t_seq fun K => ?_ | refine t_br (fun hc => ?_) fun hc => ?_ | refine t_bx ?_ | apply And.intro | intro vr)
                   | ((with_reducible first | refine ny ?_ | refine t_dwh (h := fun K KL => ?_)); intros; simp only [go_sem, kp10, geff, k1, n93, n58, n32, kq, con23_f, con23_c, con24_f, con7_f, nrV_def, Int.toNat_natCast, yes]))
                  all_goals try exact nd
                  all_goals (refine nl ?_; simp only [go_sem])
                  exact nil_to hV2.symm
                · have c10 : ((1 : Int) == 0) = false := rfl
                  repeat' (first
                   | (with_reducible first | refine nx ?_ | refine t_seq fun K => ?_ | refine t_br (fun hc => ?_) fun hc => ?_ | refine t_bx ?_ | apply And.intro | intro vr)
                   | ((with_reducible first | refine ny ?_ | refine t_dwh (h := fun K KL => ?_)); intros; simp only [go_sem, kp10, geff, k1, n93, n58, n32, kq, c10, con23_f, con23_c, con24_f, con7_f, nrV_def, Int.toNat_natCast, Bool.and_false, yes]))
                  all_goals try exact nd
                  all_goals (refine nl ?_; simp only [go_sem])
                  exact nil_to hV2.symm
              · obtain ⟨b1, b2, b3⟩ := numR_bd hc hq
                obtain ⟨n, m, hqe⟩ : ∃ (n : Int) (m : Nat), numR l i = (n, (m : Int)) := ⟨(numR l i).1, (numR l i).2.toNat, by rw [Int.toNat_of_nonneg b3]⟩
                rw [hqe] at b1 b2 hq
                simp only [Int.toNat_natCast] at b1 b2
                have kq : decide ((m : Int) < 0) = false := decide_eq_false (by omega)
                rw [rp_num (by omega) h93 h58 h32 hqe] at hF
                cases p
                · have n58 := n58' rfl
                  rw [if_pos rfl, if_pos rfl] at hF
                  repeat' (first
                   | (with_reducible first | refine nx ?_ | refine t_seq fun K => ?_ | refine t_br (fun hc => ?_) fun hc => ?_ | refine t_bx ?_ | apply And.intro | intro vr)
                   | ((with_reducible first | refine ny ?_ | refine t_dwh (h := fun K KL => ?_)); intros; simp only [go_sem, kp10, geff, k1, n93, n58, n32, kq, hqe, con23_f, con23_c, con24_f, con7_f, nrV_def, ints_snoc, Int.toNat_natCast, yes]))
                  all_goals try exact nd
                  refine ⟨⟨m, false, d ++ [n], x, v1 + 1, v2, f, by omega, by simp only [List.length_append, List.length_singleton]; omega, by omega, hF⟩, by simp only; omega, ?_⟩
                  first | exact lf | (refine Le.frameS (by first | rfl | (simp only [go_sem]; try rfl)) ?_; repeat' (first | exact leF_top _ | exact (fun _ => LeR.refl _) | (with_reducible refine leF_sl ?_ ?_) | (refine leF_upd ?_ ?_))) <;> (first | exact LeR.top _ | exact LeR.refl _ | (refine LeR.of_eq ?_; (try simp only [go_sem]); try rfl) | ((try simp only [go_sem]); try rfl))
                · have c10 : ((1 : Int) == 0) = false := rfl
                  rw [if_neg (by decide), if_neg (by decide)] at hF
                  repeat' (first
                   | (with_reducible first | refine nx ?_ | refine t_seq fun K => ?_ | refine t_br (fun hc => ?_) fun hc => ?_ | refine t_bx ?_ | apply And.intro | intro vr)
                   | ((with_reducible first | refine ny ?_ | refine t_dwh (h := fun K KL => ?_)); intros; simp only [go_sem, kp10, geff, k1, n93, n58, n32, kq, hqe, c10, con23_f, con23_c, con24_f, con7_f, nrV_def, ints_snoc, Int.toNat_natCast, Bool.and_false, yes]))
                  all_goals try exact nd
                  refine ⟨⟨m, true, d, x ++ [n], v1, v2 + 1, f, by omega, by simp only [List.length_append, List.length_singleton]; omega, by omega, hF⟩, by simp only; omega, ?_⟩
                  first | exact lf | (refine Le.frameS (by first | rfl | (simp only [go_sem]; try rfl)) ?_; repeat' (first | exact leF_top _ | exact (fun _ => LeR.refl _) | (with_reducible refine leF_sl ?_ ?_) | (refine leF_upd ?_ ?_))) <;> (first | exact LeR.top _ | exact LeR.refl _ | (refine LeR.of_eq ?_; (try simp only [go_sem]); try rfl) | ((try simp only [go_sem]); try rfl))
      · have k1 : decide ((i : Int) < (l.length : Int)) = false := decide_eq_false (by omega)
        rw [rp_end (.inl hc)] at hF
        subst hF
        simp only [Option.map_some] at hV
        generalize hX : ((ofS ⟨sInt, d, x⟩).2 != 0 || (pE (ofS ⟨sInt, d, x⟩).1 != 0) || !(pT (ofS ⟨sInt, d, x⟩).1 == l)) = X
        have hl2 := okA_ofS (a := ⟨sInt, d, x⟩) (by simp only; omega) (by simp only; omega)
        repeat' (first
         | (with_reducible first | refine nx ?_ | refine t_seq fun K => ?_ | refine t_br (fun hc => ?_) fun hc => ?_ | refine t_bx ?_ | apply And.intro | intro vr)
         | ((with_reducible first | refine ny ?_ | refine t_dwh (h := fun K KL => ?_)); intros; simp only [go_sem, kp10, geff, k1, con24_f, con24_c, con7_f, con7_c, slK_sl, arrV_def, arrOf_agg, aeV_def, arr_eta, printT_sym, hX, yes]))
        all_goals try exact nd
        all_goals (refine nl ?_; simp only [go_sem])
        · exact nil_to (by rw [← hV]; exact fin_5 (hX.trans hc))
        · exact arr_to (by rw [← hV]; exact fin_6 (hX.trans hc))
end Go.Proofs.YtdndgmcmmbjjkaaDoor.Tx

/- The plain law: what is printed is read again, by both. -/
namespace Go.Proofs.YtdndgmcmmbjjkaaDoor.Tx
open Go.Proofs.YtdndgmcmmbjjkaaDoor
open Go Go.Fw
set_option maxRecDepth 20000
/-! ### Numerals -/
theorem itoa_memb {n : Int} {c : UInt8} (h : c ∈ Lib.itoa n) : c = 45 ∨ (48 ≤ c.toNat ∧ c.toNat ≤ 57) := by
  unfold Lib.itoa at h
  split at h
  · rcases List.mem_cons.1 h with rfl | h
    · exact .inl rfl
    · exact .inr (digits_mem _ _ h)
  · exact .inr (digits_mem _ _ h)
theorem itoa_nel (n : Int) : Lib.itoa n ≠ [] := by
  unfold Lib.itoa
  split
  · simp
  · exact digits_ne _
theorem itoa_plain {n : Int} {c : UInt8} (h : c ∈ Lib.itoa n) : c ≠ 32 ∧ c ≠ 58 ∧ c ≠ 93 ∧ c.toNat < 128 ∧ Lib.isSp c = false := by
  rcases itoa_memb h with rfl | ⟨h1, h2⟩
  · exact ⟨by decide, by decide, by decide, by decide, by decide⟩
  · have e32 : (32 : UInt8).toNat = 32 := rfl
    have e58 : (58 : UInt8).toNat = 58 := rfl
    have e93 : (93 : UInt8).toNat = 93 := rfl
    refine ⟨fun e => ?_, fun e => ?_, fun e => ?_, by omega, ?_⟩
    · rw [e] at h1; omega
    · rw [e] at h2; omega
    · rw [e] at h2; omega
    · have k : ∀ k : UInt8, k.toNat < 48 → (c == k) = false := fun k hk => beq_eq_false_iff_ne.2 fun e => by rw [e] at h1; omega
      unfold Lib.isSp
      rw [k 9 (by decide), k 10 (by decide), k 11 (by decide), k 12 (by decide), k 13 (by decide), k 32 (by decide)]
      rfl
/-! ### Fields -/
theorem fg_word : ∀ (t cur rest : List UInt8), (∀ c ∈ t, Lib.isSp c = false) → Lib.fieldsGo cur (t ++ rest) = Lib.fieldsGo (cur ++ t) rest
  | [], cur, rest, _ => by simp
  | c :: t, cur, rest, h => by
    rw [List.cons_append, Lib.fieldsGo_more _ _ _ (h c (by simp)), fg_word t _ _ fun x hx => h x (by simp [hx])]
    simp
theorem fg_data : ∀ (l : List Int) (cur : List UInt8), cur ≠ [] → Lib.fieldsGo cur (dataB l) = cur :: l.map Lib.itoa
  | [], cur, h => by
    simp only [dataB, List.flatMap_nil, Lib.fieldsGo, List.map_nil]
    rw [if_neg (by simpa using h)]
  | n :: l, cur, h => by
    have e : dataB (n :: l) = 32 :: (Lib.itoa n ++ dataB l) := by simp [dataB]
    rw [e, Lib.fieldsGo_end _ _ _ (by decide) h, fg_word _ _ _ fun c hc => (itoa_plain hc).2.2.2.2, List.nil_append, fg_data l _ (itoa_nel n)]
    rfl
theorem dims_data : ∀ (l : List Int) (k : Nat), dimsB (k + 1) l = dataB l
  | [], _ => rfl
  | d :: l, k => by
    have e : dataB (d :: l) = 32 :: Lib.itoa d ++ dataB l := by simp [dataB]
    rw [e, dimsB, dims_data l]
theorem f_data (l : List Int) : Lib.fields (dataB l) = l.map Lib.itoa := by
  cases l with
  | nil => rfl
  | cons n l =>
    have e : dataB (n :: l) = 32 :: (Lib.itoa n ++ dataB l) := by simp [dataB]
    rw [Lib.fields, e, Lib.fieldsGo_sp _ _ (by decide), fg_word _ _ _ fun c hc => (itoa_plain hc).2.2.2.2, List.nil_append, fg_data l _ (itoa_nel n)]
    rfl
theorem f_dims (l : List Int) : Lib.fields (dimsB 0 l) = l.map Lib.itoa := by
  cases l with
  | nil => rfl
  | cons n l =>
    rw [Lib.fields, dimsB, dims_data, fg_word _ _ _ fun c hc => (itoa_plain hc).2.2.2.2, List.nil_append, fg_data l _ (itoa_nel n)]
    rfl
theorem data_mem {l : List Int} {c : UInt8} (h : c ∈ dataB l) : c ≠ 58 ∧ c ≠ 93 ∧ c.toNat < 128 := by
  simp only [dataB, List.mem_flatMap, List.mem_cons] at h
  obtain ⟨n, _, rfl | h⟩ := h
  · exact ⟨by decide, by decide, by decide⟩
  · exact ⟨(itoa_plain h).2.1, (itoa_plain h).2.2.1, (itoa_plain h).2.2.2.1⟩
theorem dims_mem {l : List Int} {c : UInt8} (h : c ∈ dimsB 0 l) : c ≠ 58 ∧ c ≠ 93 ∧ c.toNat < 128 := by
  cases l with
  | nil => cases h
  | cons n l =>
    rw [dimsB, dims_data] at h
    rcases List.mem_append.1 h with h | h
    · exact ⟨(itoa_plain h).2.1, (itoa_plain h).2.2.1, (itoa_plain h).2.2.2.1⟩
    · exact data_mem h
theorem nf_map : ∀ {l : List Int}, (∀ n ∈ l, -9223372036854775808 ≤ n ∧ n ≤ 9223372036854775807) → numsF (l.map Lib.itoa) = some l
  | [], _ => rfl
  | n :: l, h => by
    have h1 := h n (by simp)
    rw [List.map_cons, numsF, num_ok (atoi_itoa h1.1 h1.2), nf_map fun m hm => h m (by simp [hm])]
    rfl
theorem fd_dims {l : List Int} (h : ∀ n ∈ l, -9223372036854775808 ≤ n ∧ n ≤ 9223372036854775807) : numsF (Lib.fieldsD (dimsB 0 l)) = some l := by
  rw [Lib.fieldsD_ascii _ fun b hb => (dims_mem hb).2.2, f_dims, nf_map h]
theorem fd_data {l : List Int} (h : ∀ n ∈ l, -9223372036854775808 ≤ n ∧ n ≤ 9223372036854775807) : numsF (Lib.fieldsD (dataB l)) = some l := by
  rw [Lib.fieldsD_ascii _ fun b hb => (data_mem hb).2.2, f_data, nf_map h]
theorem cut_app {a b : List UInt8} (h : (58 : UInt8) ∉ a) : cutS 58 (a ++ 58 :: b) = some (a, b) := by
  induction a with
  | nil => simp [cutS]
  | cons c a ih =>
    simp only [List.mem_cons, not_or] at h
    rw [List.cons_append, cutS, if_neg (Ne.symm h.1), ih h.2]; rfl
theorem suf_app (a : List UInt8) : Lib.hasSuffix (a ++ [93]) [93] = true ∧ Lib.trimSuffix (a ++ [93]) [93] = a := by
  have h : Lib.hasSuffix (a ++ [93]) [93] = true := by
    unfold Lib.hasSuffix
    rw [List.isSuffixOf_iff_suffix]
    exact List.suffix_append _ _
  refine ⟨h, ?_⟩
  unfold Lib.trimSuffix
  rw [if_pos h]
  simp
/-- The program's side. -/
theorem pre1_text {a : Arr} (h : ofE a = 0) : pre1 (textA a) = some a := by
  have hs := sm_of h
  have hd := fd_dims (l := a.d) fun n hn => by have := hs.d n hn; omega
  have hx := fd_data (l := a.x) fun n hn => by have := hs.x n hn; omega
  have h58 : (58 : UInt8) ∉ dimsB 0 a.d := fun hc => (dims_mem hc).1 rfl
  have key : ∀ e, preB true e (dimsB 0 a.d ++ 58 :: dataB a.x ++ [93]) = some ⟨e, a.d, a.x⟩ := fun e => by
    obtain ⟨s1, s2⟩ := suf_app (dimsB 0 a.d ++ 58 :: dataB a.x)
    unfold preB
    rw [s1, s2]
    have hc := cut_app (b := dataB a.x) h58
    simp only [cO, cA, cB, hc, numB, numL, hd, hx]
    rfl
  rcases hs.e with he | he
  · have hH : headB a.e = [35, 91] := by unfold headB; rw [he]; rfl
    have ht : textA a = [35, 91] ++ (dimsB 0 a.d ++ 58 :: dataB a.x ++ [93]) := by simp [textA, hH]
    have hp : Lib.hasPrefix (textA a) [35, 91] = true := by rw [ht]; rfl
    have hq : Lib.trimPrefix (textA a) [35, 91] = dimsB 0 a.d ++ 58 :: dataB a.x ++ [93] := by
      unfold Lib.trimPrefix; rw [if_pos hp, ht]; rfl
    rw [pre1, if_pos hp, hq, key, ← he]
  · have hH : headB a.e = [35, 98, 91] := by unfold headB; rw [he]; rfl
    have ht : textA a = [35, 98, 91] ++ (dimsB 0 a.d ++ 58 :: dataB a.x ++ [93]) := by simp [textA, hH]
    have hp0 : Lib.hasPrefix (textA a) [35, 91] = false := by rw [ht]; rfl
    have hp : Lib.hasPrefix (textA a) [35, 98, 91] = true := by rw [ht]; rfl
    have hq : Lib.trimPrefix (textA a) [35, 98, 91] = dimsB 0 a.d ++ 58 :: dataB a.x ++ [93] := by
      unfold Lib.trimPrefix; rw [if_pos hp, ht]; rfl
    rw [pre1, if_neg (by rw [hp0]; decide), hp, hq, key, ← he]
end Go.Proofs.YtdndgmcmmbjjkaaDoor.Tx

/- The plain law: what is printed is read again, by the document. -/
namespace Go.Proofs.YtdndgmcmmbjjkaaDoor.Tx
open Go.Proofs.YtdndgmcmmbjjkaaDoor
open Go Go.Fw
set_option maxRecDepth 20000
def noDig (r : List UInt8) : Prop := r = [] ∨ ∃ c t, r = c :: t ∧ ¬ (48 ≤ c.toNat ∧ c.toNat ≤ 57)
theorem dgs_word : ∀ (ds : List UInt8) (f acc m : Nat) (r : List UInt8), decN acc ds = some m → ds.length ≤ f → noDig r → dgs f acc (ds ++ r) = (m, ds.length)
  | [], f, acc, m, r, h, _, hr => by
    cases h
    exact dgs_stop (.inr hr)
  | c :: ds, f, acc, m, r, h, hf, hr => by
    simp only [decN] at h
    split at h
    · rename_i hc
      obtain ⟨f, rfl⟩ : ∃ g, f = g + 1 := ⟨f - 1, by simp at hf; omega⟩
      rw [List.cons_append, dgs_step hc, Nat.mul_comm 10 acc, dgs_word ds f _ m r h (by simpa using hf) hr]
      rfl
    · cases h
theorem dig_len : ∀ (k u : Nat), 1 ≤ k → u < 10 ^ k → (Lib.decDigits u).length ≤ k
  | 0, _, h, _ => by omega
  | k + 1, u, _, h => by
    rw [Lib.decDigits]
    split
    · simp
    · rename_i hu
      have hk : 1 ≤ k := by
        rcases Nat.eq_zero_or_pos k with rfl | hk
        · simp at h; omega
        · exact hk
      have := dig_len k (u / 10) hk (by rw [Nat.pow_succ] at h; omega)
      rw [List.length_append, List.length_singleton]; omega
theorem getD_drop {l : List UInt8} {i : Nat} {c : UInt8} {r : List UInt8} (h : l.drop i = c :: r) : l.getD i 0 = c ∧ i < l.length ∧ l.drop (i + 1) = r := by
  have hi : i < l.length := by
    rcases Nat.lt_or_ge i l.length with hi | hi
    · exact hi
    · rw [List.drop_eq_nil_of_le hi] at h; cases h
  rw [drop_at hi] at h
  simp only [List.cons.injEq] at h
  exact ⟨h.1, hi, h.2⟩
theorem drop_more {l a r : List UInt8} {i : Nat} (h : l.drop i = a ++ r) : l.drop (i + a.length) = r := by
  rw [← List.drop_drop, h, List.drop_left]
/-- A number stands at a place. -/
theorem num_at {l r : List UInt8} {i : Nat} {n : Int} (h : l.drop i = Lib.itoa n ++ r) (hn : -100000000000 ≤ n ∧ n ≤ 100000000000) (hr : noDig r) : numR l i = (n, ((i + (Lib.itoa n).length : Nat) : Int)) := by
  have hd : (Lib.decDigits n.natAbs).length ≤ 12 := dig_len 12 _ (by decide) (by have : (10 : Nat) ^ 12 = 1000000000000 := by decide
                                                                                 omega)
  have hpos := List.length_pos_iff.2 (digits_ne n.natAbs)
  by_cases h0 : n < 0
  · have e : Lib.itoa n = 45 :: Lib.decDigits n.natAbs := by unfold Lib.itoa; rw [if_pos h0]
    rw [e, List.cons_append] at h
    obtain ⟨h1, _, h3⟩ := getD_drop h
    unfold numR
    rw [if_pos h1, h3, dgs_word _ 12 0 _ r (decN_digits _) hd hr, if_neg (by simp only; omega), e]
    simp only [List.length_cons, Prod.mk.injEq]
    constructor <;> omega
  · have e : Lib.itoa n = Lib.decDigits n.natAbs := by unfold Lib.itoa; rw [if_neg h0]; congr 1; omega
    rw [e] at h
    cases hq : Lib.decDigits n.natAbs with
    | nil => exact absurd hq (digits_ne _)
    | cons c t =>
      have hc := digits_head hq
      have h' := h
      rw [hq, List.cons_append] at h'
      obtain ⟨h1, _, _⟩ := getD_drop h'
      have h45 : ¬ l.getD i 0 = 45 := by
        rw [h1]
        intro ec
        have : (45 : UInt8).toNat = 45 := rfl
        rw [ec] at hc; omega
      unfold numR
      rw [if_neg h45, h, dgs_word _ 12 0 _ r (decN_digits _) hd hr, if_neg (by simp only; omega), e]
      simp only [Prod.mk.injEq, and_true]
      omega
/-- A number is read. -/
theorem rp_word {l r : List UInt8} {f i : Nat} {p : Bool} {d x : List Int} {n : Int} (h : l.drop i = Lib.itoa n ++ r) (hn : -100000000000 ≤ n ∧ n ≤ 100000000000) (hr : noDig r) :
    rpS l (f + 1) i p d x = rpS l f (i + (Lib.itoa n).length) p (if p = false then d ++ [n] else d) (if p = false then x else x ++ [n]) := by
  cases hq : Lib.itoa n with
  | nil => exact absurd hq (itoa_nel n)
  | cons c t =>
    have h' := h
    rw [hq, List.cons_append] at h'
    obtain ⟨h1, h2, _⟩ := getD_drop h'
    obtain ⟨p1, p2, p3, _⟩ := itoa_plain (n := n) (c := c) (by rw [hq]; simp)
    rw [← hq]
    exact rp_num (by omega) (by rw [h1]; exact p3) (fun e => p2 (by rw [← h1]; exact e.1)) (by rw [h1]; exact p1) (num_at h hn hr)
theorem noDig_data (m : List Int) (r : List UInt8) (hr : noDig r) : noDig (dataB m ++ r) := by
  cases m with
  | nil => exact hr
  | cons n m =>
    have e : dataB (n :: m) = 32 :: Lib.itoa n ++ dataB m := by simp [dataB]
    rw [e]
    exact .inr ⟨32, _, rfl, by decide⟩
theorem noDig_93 : noDig [93] := .inr ⟨93, [], rfl, by decide⟩
theorem noDig_58 (r : List UInt8) : noDig (58 :: r) := .inr ⟨58, r, rfl, by decide⟩
theorem data_cons (n : Int) (m : List Int) : dataB (n :: m) = 32 :: (Lib.itoa n ++ dataB m) := by simp [dataB]
def Sml (l : List Int) : Prop := ∀ n ∈ l, -100000000000 ≤ n ∧ n ≤ 100000000000
theorem rp_data {l : List UInt8} {d : List Int} : ∀ (m : List Int) (f i : Nat) (x : List Int), Sml m → l.drop i = dataB m ++ [93] → l.length < i + f → rpS l f i true d x = some (d, x ++ m)
  | [], f, i, x, _, h, hf => by
    obtain ⟨h1, h2, _⟩ := getD_drop (show l.drop i = 93 :: [] from h)
    obtain ⟨f, rfl⟩ : ∃ g, f = g + 1 := ⟨f - 1, by omega⟩
    rw [rp_end (.inr h1), List.append_nil]
  | n :: m, f, i, x, hs, h, hf => by
    rw [data_cons, List.cons_append, List.append_assoc] at h
    obtain ⟨h1, h2, h3⟩ := getD_drop h
    obtain ⟨f, rfl⟩ : ∃ g, f = g + 2 := ⟨f - 2, by
      have : (l.drop (i + 1)).length = l.length - (i + 1) := List.length_drop ..
      rw [h3] at this
      simp only [List.length_append, List.length_singleton] at this
      omega⟩
    rw [rp_32 (by omega) (by rw [h1]; decide) (fun e => by rw [h1] at e; exact absurd e.1 (by decide)) h1, rp_word h3 (hs n (by simp)) (noDig_data _ _ noDig_93), if_neg (by decide), if_neg (by decide)]
    have hpos := List.length_pos_iff.2 (itoa_nel n)
    rw [rp_data m f _ _ (fun k hk => hs k (by simp [hk])) (drop_more h3) (by omega)]
    simp
theorem rp_dims {l : List UInt8} {y : List Int} (hy : Sml y) : ∀ (m : List Int) (f i : Nat) (d : List Int), Sml m → l.drop i = dataB m ++ (58 :: (dataB y ++ [93])) → l.length < i + f → rpS l f i false d [] = some (d ++ m, y)
  | [], f, i, d, _, h, hf => by
    obtain ⟨h1, h2, h3⟩ := getD_drop (show l.drop i = 58 :: (dataB y ++ [93]) from h)
    obtain ⟨f, rfl⟩ : ∃ g, f = g + 1 := ⟨f - 1, by omega⟩
    rw [rp_58 (by omega) (by rw [h1]; decide) h1, rp_data y f _ _ hy h3 (by omega)]
    simp
  | n :: m, f, i, d, hs, h, hf => by
    rw [data_cons, List.cons_append, List.append_assoc] at h
    obtain ⟨h1, h2, h3⟩ := getD_drop h
    obtain ⟨f, rfl⟩ : ∃ g, f = g + 2 := ⟨f - 2, by
      have : (l.drop (i + 1)).length = l.length - (i + 1) := List.length_drop ..
      rw [h3] at this
      simp only [List.length_append, List.length_cons, List.length_nil] at this
      omega⟩
    rw [rp_32 (by omega) (by rw [h1]; decide) (fun e => by rw [h1] at e; exact absurd e.1 (by decide)) h1, rp_word h3 (hs n (by simp)) (noDig_data _ _ (noDig_58 _)), if_pos rfl, if_pos rfl]
    have hpos := List.length_pos_iff.2 (itoa_nel n)
    rw [rp_dims hy m f _ _ (fun k hk => hs k (by simp [hk])) (drop_more h3) (by omega)]
    simp
theorem rp_all {l : List UInt8} {y m : List Int} {f i : Nat} (hy : Sml y) (hm : Sml m) (h : l.drop i = dimsB 0 m ++ (58 :: (dataB y ++ [93]))) (hf : l.length < i + f) : rpS l f i false [] [] = some (m, y) := by
  cases m with
  | nil => exact rp_dims hy [] f i [] hm h hf
  | cons n m =>
    rw [dimsB, dims_data, List.append_assoc] at h
    have hpos := List.length_pos_iff.2 (itoa_nel n)
    obtain ⟨f, rfl⟩ : ∃ g, f = g + 1 := ⟨f - 1, by
      have : (l.drop i).length = l.length - i := List.length_drop ..
      rw [h] at this
      simp only [List.length_append, List.length_cons, List.length_nil] at this
      omega⟩
    rw [rp_word h (hm n (by simp)) (noDig_data _ _ (noDig_58 _)), if_pos rfl, if_pos rfl]
    rw [rp_dims hy m f _ _ (fun k hk => hm k (by simp [hk])) (drop_more h) (by omega)]
    simp
theorem pre2_text {a : Arr} (h : ofE a = 0) : pre2 (textA a) = some a := by
  have hs := sm_of h
  have hd : Sml a.d := fun n hn => by have := hs.d n hn; omega
  have hx : Sml a.x := fun n hn => by have := hs.x n hn; omega
  rcases hs.e with he | he
  · have hH : headB a.e = [35, 91] := by unfold headB; rw [he]; rfl
    have ht : textA a = 35 :: 91 :: (dimsB 0 a.d ++ (58 :: (dataB a.x ++ [93]))) := by simp [textA, hH]
    have hc : ¬ ((textA a).length > 2 ∧ (textA a).getD 1 0 = 98) := by
      rw [ht]; intro e; exact absurd e.2 (by simp)
    have hE : rElem (textA a) = sInt := if_neg hc
    have hA : rAt (textA a) = 2 := if_neg hc
    rw [pre2, hE, hA, rp_all hx hd (by rw [ht]; rfl) (by omega), ← he]
    rfl
  · have hH : headB a.e = [35, 98, 91] := by unfold headB; rw [he]; rfl
    have ht : textA a = 35 :: 98 :: 91 :: (dimsB 0 a.d ++ (58 :: (dataB a.x ++ [93]))) := by simp [textA, hH]
    have hc : (textA a).length > 2 ∧ (textA a).getD 1 0 = 98 := by
      rw [ht]; exact ⟨by simp only [List.length_cons]; omega, rfl⟩
    have hE : rElem (textA a) = sBool := if_pos hc
    have hA : rAt (textA a) = 3 := if_pos hc
    rw [pre2, hE, hA, rp_all hx hd (by rw [ht]; rfl) (by omega), ← he]
    rfl
/-- Both read the same. -/
theorem fin_text {a : Arr} {o : Option Arr} (h : ofE a = 0) (ho : o = some a) : fin o (textA a) = (a, 0) := by
  subst ho
  unfold fin
  show (if ofE a = 0 ∧ textA a = textA a then (a, (0 : Int)) else (nilA, 6)) = (a, 0)
  rw [if_pos ⟨h, rfl⟩]
theorem fin_inv {o : Option Arr} {l : List UInt8} (h : (fin o l).2 = 0) : ofE (fin o l).1 = 0 ∧ textA (fin o l).1 = l := by
  unfold fin at h ⊢
  split
  · split
    · rename_i hq; exact hq
    · rename_i hq; simp only [if_neg hq] at h; cases h
  · cases h
theorem fin_or (o : Option Arr) (l : List UInt8) : (fin o l = (nilA, 6)) ∨ (fin o l).2 = 0 := by
  unfold fin
  split
  · split
    · exact .inr rfl
    · exact .inl rfl
  · exact .inl rfl
theorem fin_both (l : List UInt8) : fin (pre1 l) l = fin (pre2 l) l := by
  rcases fin_or (pre1 l) l with h1 | h1
  · rcases fin_or (pre2 l) l with h2 | h2
    · rw [h1, h2]
    · obtain ⟨i1, i2⟩ := fin_inv h2
      rw [← i2, fin_text i1 (pre1_text i1), fin_text i1 (pre2_text i1)]
  · obtain ⟨i1, i2⟩ := fin_inv h1
    rw [← i2, fin_text i1 (pre1_text i1), fin_text i1 (pre2_text i1)]
end Go.Proofs.YtdndgmcmmbjjkaaDoor.Tx

/- The examples of the document, and the law. -/
namespace Go.Proofs.YtdndgmcmmbjjkaaDoor.Tx
open Go.Proofs.YtdndgmcmmbjjkaaDoor
open Go Go.Fw
set_option maxRecDepth 20000
def nO : Nat → Int
  | 0 => 0
  | 1 => 1
  | _ => 3
noncomputable def W1 : Env := envJ (P := Tryd.prog) jkA zer (fun _ => false) (fun _ => false) [con25] []
theorem W1_ok : EnvOk Tryd.prog W1 := envJOk zer_ok
set_option maxHeartbeats 4000000 in
theorem off_pc : PC Tryd.prog 12 [.sl false 1 (ints .i64 [2, 3]), .sl false 1 (ints .i64 [1, 0])] (.tup [.lit (.int .i64 3), .lit (.int .i64 0)]) := by
  have hS : sizeS [2, 3] = (6, 0) := rfl
  refine pcR W1_ok (kp12) Tryd.func12 [.tmp 4, .tmp 5] (h := fun KF => ?_)
  unfold W1
  repeat' (first
   | (with_reducible first | refine nx ?_ | refine t_seq fun K => ?_ | refine t_br (fun hc => ?_) fun hc => ?_ | refine t_bx ?_ | apply And.intro | intro vr)
   | ((with_reducible first | refine ny ?_ | refine t_dwh (h := fun K KL => ?_)); intros; simp only [go_sem, kp12, geff, con25_f, con25_c, slK_sl, szV_def, hS]))
  all_goals try exact nd
  refine t_loopF (ι := { i : Nat // i ≤ 2 }) (fun i => [(26, .lit (.int .i64 i.1)), (8, .lit (.int .i64 (nO i.1)))]) (fun i => []) (fun i => 2 - i.1) ⟨0, by omega⟩ ?_ ?_
  · exact lf
  rintro ⟨i, hi⟩ K0
  have : i = 0 ∨ i = 1 ∨ i = 2 := by omega
  rcases this with rfl | rfl | rfl
  · have e1 : (ints .i64 [2, 3]).getD 0 (.lit (.int .i64 0)) = .lit (.int .i64 2) := rfl
    have e2 : (ints .i64 [1, 0]).getD 0 (.lit (.int .i64 0)) = .lit (.int .i64 1) := rfl
    repeat' (first
     | (with_reducible first | refine nx ?_ | refine t_seq fun K => ?_ | refine t_br (fun hc => ?_) fun hc => ?_ | refine t_bx ?_ | apply And.intro | intro vr)
     | ((with_reducible first | refine ny ?_ | refine t_dwh (h := fun K KL => ?_)); intros; simp only [go_sem, kp12, geff, con25_f, e1, e2, nO, yes]))
    all_goals try exact nd
    exact ⟨⟨1, by omega⟩, wf, lf⟩
  · have e1 : (ints .i64 [2, 3]).getD 1 (.lit (.int .i64 0)) = .lit (.int .i64 3) := rfl
    have e2 : (ints .i64 [1, 0]).getD 1 (.lit (.int .i64 0)) = .lit (.int .i64 0) := rfl
    repeat' (first
     | (with_reducible first | refine nx ?_ | refine t_seq fun K => ?_ | refine t_br (fun hc => ?_) fun hc => ?_ | refine t_bx ?_ | apply And.intro | intro vr)
     | ((with_reducible first | refine ny ?_ | refine t_dwh (h := fun K KL => ?_)); intros; simp only [go_sem, kp12, geff, con25_f, e1, e2, nO, yes]))
    all_goals try exact nd
    exact ⟨⟨2, by omega⟩, wf, lf⟩
  · skip
    repeat' (first
     | (with_reducible first | refine nx ?_ | refine t_seq fun K => ?_ | refine t_br (fun hc => ?_) fun hc => ?_ | refine t_bx ?_ | apply And.intro | intro vr)
     | ((with_reducible first | refine ny ?_ | refine t_dwh (h := fun K KL => ?_)); intros; simp only [go_sem, kp12, geff, con25_f, nO, yes]))
    all_goals try exact nd
    all_goals (refine nl ?_; simp only [go_sem])
    exact LeA.refl _
noncomputable def con12 : PCon Tryd.prog where
  f := 12
  c := fun
    | [x, y] => match slK .i64 x, slK .i64 y with
      | some d, some ix => some (d = [2, 3] ∧ ix = [1, 0], .tup [.lit (.int .i64 3), .lit (.int .i64 0)])
      | _, _ => none
    | _ => none
  ok := by
    intro args p r hc hp
    split at hc
    · split at hc
      · rename_i h1 h2
        cases hc
        obtain ⟨rfl, rfl⟩ := hp
        exact PC.weak off_pc ⟨slK_le h1, slK_le h2, trivial⟩
      · cases hc
    · cases hc
  fk := fk12
theorem con12_f : con12.f = 12 := rfl
theorem con12_c {x y : AV} : con12.c [x, y] = match slK .i64 x, slK .i64 y with
      | some d, some ix => some (d = [2, 3] ∧ ix = [1, 0], .tup [.lit (.int .i64 3), .lit (.int .i64 0)])
      | _, _ => none := rfl
abbrev a0 : Arr := ⟨sInt, [2, 3], [1, 2, 3, 4, 5, 6]⟩
theorem text0 : textA a0 = [35, 91, 50, 32, 51, 58, 32, 49, 32, 50, 32, 51, 32, 52, 32, 53, 32, 54, 93] := by
  have e1 : Lib.itoa 1 = [49] := by rw [itoa_lt (by omega) (by omega)]; rfl
  have e2 : Lib.itoa 2 = [50] := by rw [itoa_lt (by omega) (by omega)]; rfl
  have e3 : Lib.itoa 3 = [51] := by rw [itoa_lt (by omega) (by omega)]; rfl
  have e4 : Lib.itoa 4 = [52] := by rw [itoa_lt (by omega) (by omega)]; rfl
  have e5 : Lib.itoa 5 = [53] := by rw [itoa_lt (by omega) (by omega)]; rfl
  have e6 : Lib.itoa 6 = [54] := by rw [itoa_lt (by omega) (by omega)]; rfl
  have hH : headB sInt = [35, 91] := rfl
  simp only [textA, hH, dimsB, dataB, List.flatMap_cons, List.flatMap_nil, e1, e2, e3, e4, e5, e6]
  rfl
theorem pT0 : pT a0 = [35, 91, 50, 32, 51, 58, 32, 49, 32, 50, 32, 51, 32, 52, 32, 53, 32, 54, 93] := by
  unfold pT
  rw [if_pos (by rfl), text0]
theorem pE0 : pE a0 = 0 := rfl
noncomputable def W2 : Env := envJ (P := Tryd.prog) jkA zer (fun _ => false) (fun _ => false) [con11, con6, con12, con13] []
theorem W2_ok : EnvOk Tryd.prog W2 := envJOk zer_ok
set_option maxHeartbeats 4000000 in
theorem awake_pc : PC Tryd.prog 4 [] (.lit (.bool true)) := by
  have h0 : (ofE a0 == 0) = true := rfl
  have h1 : ofS ⟨⟨#[105, 110, 116]⟩, [2, 3], [1, 2, 3, 4, 5, 6]⟩ = (a0, 0) := rfl
  have hsi : (⟨#[105, 110, 116]⟩ : ByteArray) = sInt := rfl
  have hb : (⟨#[35, 91, 50, 32, 51, 58, 32, 49, 32, 50, 32, 51, 32, 52, 32, 53, 32, 54, 93]⟩ : ByteArray) = bs [35, 91, 50, 32, 51, 58, 32, 49, 32, 50, 32, 51, 32, 52, 32, 53, 32, 54, 93] := rfl
  refine pcR W2_ok (kp4) Tryd.func4 [.tmp 0] (h := fun KF => ?_)
  unfold W2
  repeat' (first
   | (with_reducible first | refine nx ?_ | refine t_seq fun K => ?_ | refine t_br (fun hc => ?_) fun hc => ?_ | refine t_bx ?_ | apply And.intro | intro vr)
   | ((with_reducible first | refine ny ?_ | refine t_dwh (h := fun K KL => ?_)); intros; simp only [go_sem, kp4, geff, con11_f, con6_f, con12_f, con13_f, con11_c, con6_c, con12_c, con13_c, slK_sl, slK_cons, slK_emp, h0, h1, arrV_def, arrOf_agg, aeV_def, beq_self_eq_true, printT_sym, pT0, pE0, hb]))
  all_goals try exact nd
  all_goals (refine nl ?_; simp only [go_sem])
  exact LeA.refl _
end Go.Proofs.YtdndgmcmmbjjkaaDoor.Tx

/- The law. -/
namespace Go.Proofs.YtdndgmcmmbjjkaaDoor.Tx
open Go.Proofs.YtdndgmcmmbjjkaaDoor
open Go Go.Fw
set_option maxRecDepth 20000
noncomputable def con4 : PCon Tryd.prog where
  f := 4
  c := fun
    | [] => some (True, .lit (.bool true))
    | _ => none
  ok := by
    intro args p r hc hp
    split at hc
    · cases hc; exact awake_pc
    · cases hc
  fk := fk4
theorem con4_f : con4.f = 4 := rfl
theorem con4_c  : con4.c [] = some (True, .lit (.bool true)) := rfl
theorem parse_s {s : ByteArray} (h : (ul s).length ≤ 200000) : PC Tryd.prog 8 [.lit (.string s)] (aeV (fin (pre1 (ul s)) (ul s))) := by
  obtain ⟨l, rfl⟩ := bs_ex s
  rw [ul_bs] at *
  exact parse_pc h
theorem rparse_s {s : ByteArray} (h : (ul s).length ≤ 200000) : PC Tryd.prog 10 [.lit (.string s)] (aeV (fin (pre2 (ul s)) (ul s))) := by
  obtain ⟨l, rfl⟩ := bs_ex s
  rw [ul_bs] at *
  exact rparse_pc h
noncomputable def con8 : PCon Tryd.prog where
  f := 8
  c := fun
    | [.lit (.string s)] => some ((ul s).length ≤ 200000, aeV (fin (pre1 (ul s)) (ul s)))
    | _ => none
  ok := by
    intro args p r hc hp
    split at hc
    · cases hc; exact (parse_s hp)
    · cases hc
  fk := fk8
theorem con8_f : con8.f = 8 := rfl
theorem con8_c {s : ByteArray} : con8.c [.lit (.string s)] = some ((ul s).length ≤ 200000, aeV (fin (pre1 (ul s)) (ul s))) := rfl
noncomputable def con10 : PCon Tryd.prog where
  f := 10
  c := fun
    | [.lit (.string s)] => some ((ul s).length ≤ 200000, aeV (fin (pre2 (ul s)) (ul s)))
    | _ => none
  ok := by
    intro args p r hc hp
    split at hc
    · cases hc; exact (rparse_s hp)
    · cases hc
  fk := fk10
theorem con10_f : con10.f = 10 := rfl
theorem con10_c {s : ByteArray} : con10.c [.lit (.string s)] = some ((ul s).length ≤ 200000, aeV (fin (pre2 (ul s)) (ul s))) := rfl
theorem con8_b {l : List UInt8} : con8.c [.lit (.string (bs l))] = some (l.length ≤ 200000, aeV (fin (pre1 l) l)) := by rw [con8_c, ul_bs]
theorem con10_b {l : List UInt8} : con10.c [.lit (.string (bs l))] = some (l.length ≤ 200000, aeV (fin (pre1 l) l)) := by rw [con10_c, ul_bs, fin_both]
attribute [go_sem] con4_f con4_c con8_f con8_b con10_f con10_b
theorem eqA_refl (a : Arr) : eqA a a = true := by
  unfold eqA
  have h : eqS a.e a.e = true := eqS_iff'.2 rfl
  rw [h, decide_eq_true rfl, decide_eq_true rfl]; rfl
theorem few_ok {a : Arr} {n : Int} (h : fewA a n = true) (hn : n ≤ 1000000) : okA a := by
  simp only [fewA, Bool.and_eq_true, decide_eq_true_eq] at h
  exact ⟨by omega, by omega⟩
theorem fin_ok (o : Option Arr) (l : List UInt8) : (fin o l).1.d.length ≤ 1000000 ∧ (fin o l).1.x.length ≤ 1000000 := by
  rcases fin_or o l with h | h
  · rw [h]; exact ⟨by simp [nilA], by simp [nilA]⟩
  · have hs := sm_of (fin_inv h).1
    exact ⟨by have := hs.dl; omega, by have := hs.xl; omega⟩
noncomputable def L3 : Env := envJ (P := Tryd.prog) jkA zer (fun _ => false) (fun _ => false) [con4, con5, con6, con7, con8, con9, con10] []
theorem L3_ok : EnvOk Tryd.prog L3 := envJOk zer_ok
theorem U_ok {o : Option Arr} {l : List UInt8} {U : Arr × Int} (hU : fin o l = U) : (U.2 = 0 ∧ pT U.1 = l ∧ pE U.1 = 0) ∨ U.2 ≠ 0 := by
  subst hU
  by_cases h : (fin o l).2 = 0
  · obtain ⟨h1, h2⟩ := fin_inv h
    refine .inl ⟨h, ?_, ?_⟩
    · unfold pT; rw [if_pos h1, h2]
    · unfold pE; rw [if_pos h1]
  · exact .inr h
set_option maxHeartbeats 8000000 in
theorem law3 {a : Arr} {l : List UInt8} : PC Tryd.prog 3 [arrV a, .lit (.string (bs l))] (.lit (.bool true)) := by
  by_cases hg : fewA a 100 = true ∧ l.length ≤ 200
  · obtain ⟨h1, h2⟩ := hg
    have h2' : decide ((l.length : Int) > 200) = false := decide_eq_false (by omega)
    have ha := few_ok h1 (by decide)
    have ha1 := ha.1
    have ha2 := ha.2
    have hUo := fin_ok (pre1 l) l
    have hUU := eqA_refl (fin (pre1 l) l).1
    generalize hU : fin (pre1 l) l = U at *
    have hUk : okA U.1 := ⟨hUo.1, hUo.2⟩
    have hUq := U_ok hU
    by_cases h0 : ofE a = 0
    · have e1 : pT a = textA a := if_pos h0
      have e2 : pE a = 0 := if_pos h0
      have hb := fin_text h0 (pre1_text h0)
      have htl := text_len (sm_of h0)
      have haa := eqA_refl a
      generalize textA a = T at *
      rcases hUq with ⟨q1, q2, q3⟩ | q
      · skip
        refine pcR L3_ok (kp3) Tryd.func3 [.tmp 4] (h := fun KF => ?_)
        unfold L3
        repeat' (first
         | (with_reducible first | refine nx ?_ | refine t_seq fun K => ?_ | refine t_br (fun hc => ?_) fun hc => ?_ | refine t_bx ?_ | apply And.intro | intro vr)
         | ((with_reducible first | refine ny ?_ | refine t_dwh (h := fun K KL => ?_)); intros; simp only [go_sem, kp3, geff, con4_f, con5_f, con6_f, con7_f, con8_f, con9_f, con10_f, con4_c, con5_c, con6_c, con7_c, con9_c, arrOf_agg, arrV_def, aeV_def, slK_sl, arr_eta, printT_sym, h1, h2', e1, e2, hb, haa, hU, hUU, q1, q2, q3, beq_self_eq_true]))
        all_goals try exact nd
        all_goals (refine nl ?_; simp only [go_sem])
        all_goals exact LeA.refl _
      · have q' : (U.2 == 0) = false := by simpa using q
        have q'' : (U.2 != 0) = true := by simpa using q
        refine pcR L3_ok (kp3) Tryd.func3 [.tmp 4] (h := fun KF => ?_)
        unfold L3
        repeat' (first
         | (with_reducible first | refine nx ?_ | refine t_seq fun K => ?_ | refine t_br (fun hc => ?_) fun hc => ?_ | refine t_bx ?_ | apply And.intro | intro vr)
         | ((with_reducible first | refine ny ?_ | refine t_dwh (h := fun K KL => ?_)); intros; simp only [go_sem, kp3, geff, con4_f, con5_f, con6_f, con7_f, con8_f, con9_f, con10_f, con4_c, con5_c, con6_c, con7_c, con9_c, arrOf_agg, arrV_def, aeV_def, slK_sl, arr_eta, printT_sym, h1, h2', e1, e2, hb, haa, hU, hUU, q', q'', beq_self_eq_true]))
        all_goals try exact nd
        all_goals (refine nl ?_; simp only [go_sem])
        all_goals exact LeA.refl _
    · have e1 : pT a = [] := if_neg h0
      have e2 : pE a = 1 := if_neg h0
      have c10 : ((1 : Int) == 0) = false := rfl
      generalize hE : fin (pre1 []) [] = N at *
      rcases hUq with ⟨q1, q2, q3⟩ | q
      · skip
        refine pcR L3_ok (kp3) Tryd.func3 [.tmp 4] (h := fun KF => ?_)
        unfold L3
        repeat' (first
         | (with_reducible first | refine nx ?_ | refine t_seq fun K => ?_ | refine t_br (fun hc => ?_) fun hc => ?_ | refine t_bx ?_ | apply And.intro | intro vr)
         | ((with_reducible first | refine ny ?_ | refine t_dwh (h := fun K KL => ?_)); intros; simp only [go_sem, kp3, geff, con4_f, con5_f, con6_f, con7_f, con8_f, con9_f, con10_f, con4_c, con5_c, con6_c, con7_c, con9_c, arrOf_agg, arrV_def, aeV_def, slK_sl, arr_eta, printT_sym, h1, h2', e1, e2, hE, c10, hU, hUU, q1, q2, q3, beq_self_eq_true, List.length_nil]))
        all_goals try exact nd
        all_goals (refine nl ?_; simp only [go_sem])
        all_goals exact LeA.refl _
      · have q' : (U.2 == 0) = false := by simpa using q
        have q'' : (U.2 != 0) = true := by simpa using q
        refine pcR L3_ok (kp3) Tryd.func3 [.tmp 4] (h := fun KF => ?_)
        unfold L3
        repeat' (first
         | (with_reducible first | refine nx ?_ | refine t_seq fun K => ?_ | refine t_br (fun hc => ?_) fun hc => ?_ | refine t_bx ?_ | apply And.intro | intro vr)
         | ((with_reducible first | refine ny ?_ | refine t_dwh (h := fun K KL => ?_)); intros; simp only [go_sem, kp3, geff, con4_f, con5_f, con6_f, con7_f, con8_f, con9_f, con10_f, con4_c, con5_c, con6_c, con7_c, con9_c, arrOf_agg, arrV_def, aeV_def, slK_sl, arr_eta, printT_sym, h1, h2', e1, e2, hE, c10, hU, hUU, q', q'', beq_self_eq_true, List.length_nil]))
        all_goals try exact nd
        all_goals (refine nl ?_; simp only [go_sem])
        all_goals exact LeA.refl _
  · have h' : (!fewA a 100 || decide ((l.length : Int) > 200)) = true := by
      cases h1 : fewA a 100 with
      | false => rfl
      | true => simp only [Bool.not_true, Bool.false_or, decide_eq_true_eq]; have h3 : ¬ l.length ≤ 200 := fun h2 => hg ⟨h1, h2⟩; omega
    refine pcR L3_ok (kp3) Tryd.func3 [.tmp 4] (h := fun KF => ?_)
    unfold L3
    repeat' (first
     | (with_reducible first | refine nx ?_ | refine t_seq fun K => ?_ | refine t_br (fun hc => ?_) fun hc => ?_ | refine t_bx ?_ | apply And.intro | intro vr)
     | ((with_reducible first | refine ny ?_ | refine t_dwh (h := fun K KL => ?_)); intros; simp only [go_sem, kp3, geff, h', con4_f, con5_f, con6_f, con7_f, con8_f, con9_f, con10_f, con4_c, con5_c, arrOf_agg, arrV_def, aeV_def, slK_sl, arr_eta]))
    all_goals try exact nd
    all_goals (refine nl ?_; simp only [go_sem])
    all_goals exact LeA.refl _
end Go.Proofs.YtdndgmcmmbjjkaaDoor.Tx

/- Contracts of the library, laid by the shelf's plain mode. -/
namespace Go.Proofs
open Go.Shelf
def Tryd.lays199_ren : Go.Shelf.Ren := ⟨fun | 199 => 46 | 261 => 59 | 311 => 72 | 312 => 73 | n => n, fun | 21 => 21 | 4 => 4 | 51 => 86 | 141 => 88 | 0 => 0 | 196 => 104 | 193 => 101 | 3 => 3 | 198 => 107 | 49 => 105 | 194 => 102 | 201 => 110 | 226 => 119 | 46 => 82 | 227 => 120 | n => n, fun | 6 => 2 | n => n⟩
theorem Tryd.lays199 : Go.Proofs.Lays.n199 Tryd.prog Tryd.lays199_ren := {
  mixed := by kernel_rfl
  f199 := Tryd.func46.trans (congrArg some (by kernel_rfl))
  f261 := Tryd.func59.trans (congrArg some (by kernel_rfl))
  f311 := Tryd.func72.trans (congrArg some (by kernel_rfl))
  f312 := Tryd.func73.trans (congrArg some (by kernel_rfl))
  t0 := Tryd.underlying0
  a0 := Tryd.isAgg0
  z0 := Tryd.sizeOf0
  v0 := Tryd.zeroValue0
  t3 := Tryd.underlying3
  a3 := Tryd.isAgg3
  z3 := Tryd.sizeOf3
  v3 := Tryd.zeroValue3
  t4 := Tryd.underlying4
  a4 := Tryd.isAgg4
  z4 := Tryd.sizeOf4
  v4 := Tryd.zeroValue4
  t21 := Tryd.underlying21
  a21 := Tryd.isAgg21
  z21 := Tryd.sizeOf21
  v21 := Tryd.zeroValue21
  t46 := Tryd.underlying82
  a46 := Tryd.isAgg82
  z46 := Tryd.sizeOf82
  v46 := Tryd.zeroValue82
  t49 := Tryd.underlying105
  a49 := Tryd.isAgg105
  z49 := Tryd.sizeOf105
  v49 := Tryd.zeroValue105
  t51 := Tryd.underlying86
  a51 := Tryd.isAgg86
  z51 := Tryd.sizeOf86
  v51 := Tryd.zeroValue86
  t141 := Tryd.underlying88
  a141 := Tryd.isAgg88
  z141 := Tryd.sizeOf88
  v141 := Tryd.zeroValue88
  t193 := Tryd.underlying101
  a193 := Tryd.isAgg101
  z193 := Tryd.sizeOf101
  v193 := Tryd.zeroValue101
  t194 := Tryd.underlying102
  a194 := Tryd.isAgg102
  z194 := Tryd.sizeOf102
  v194 := Tryd.zeroValue102
  t196 := Tryd.underlying104
  a196 := Tryd.isAgg104
  z196 := Tryd.sizeOf104
  v196 := Tryd.zeroValue104
  t198 := Tryd.underlying107
  a198 := Tryd.isAgg107
  z198 := Tryd.sizeOf107
  v198 := Tryd.zeroValue107
  t201 := Tryd.underlying110
  a201 := Tryd.isAgg110
  z201 := Tryd.sizeOf110
  v201 := Tryd.zeroValue110
  t226 := Tryd.underlying119
  a226 := Tryd.isAgg119
  z226 := Tryd.sizeOf119
  v226 := Tryd.zeroValue119
  t227 := Tryd.underlying120
  a227 := Tryd.isAgg120
  z227 := Tryd.sizeOf120
  v227 := Tryd.zeroValue120
  g6 := by kernel_rfl }
end Go.Proofs

/- The row's listed variables give what every world has. -/
namespace Go.Proofs.YtdndgmcmmbjjkaaDoor.Tx
open Go.Proofs.YtdndgmcmmbjjkaaDoor
open Go Go.Fw
set_option maxRecDepth 20000
theorem trod_if {H : Type} {enc : TypeId × Value → H} {P : Program} {w : World} {base : Nat} {sp : Nat → Bool} {held : Bool} {fuel : Nat} {t : TypeId} {ms : Array (String × TypeId)} {cs : List Value} {n : String} {d : DataW H} {p : List MemPlace}
    (ht : P.underlying t = some (.interface ms)) (h : DataW.trod enc P w base sp held fuel t cs = some (.iface n d, p)) : ∃ u v, cs = [.iface u v] := by
  cases fuel with
  | zero => simp [DataW.trod] at h
  | succ fuel =>
    simp only [DataW.trod, ht] at h
    split at h
    all_goals first
      | exact ⟨_, _, rfl⟩
      | (rename_i hx; cases hx; done)
      | skip
    all_goals cases h
theorem tab_reads {W : World} {n : String} {k : IntKind} {zs : List Int} {g t e m : Nat} (hg : Tryd.prog.globalNamed n = some g) (hy : (Tryd.prog.globals[g]?).map (·.type) = some t) (ht : Tryd.prog.underlying t = some (.array m e)) (he : Tryd.prog.underlying e = some (.int k)) (h1 : Tryd.prog.cellsOf e = 1) (h2 : Tryd.prog.cellsOf t = m)
    (h : Lib.VarReads Tryd.prog W n (Lib.tabData k zs)) : Lib.TabIs Tryd.prog W n k zs := by
  obtain ⟨g', t', cs, f, p, a, b, v, d⟩ := h
  obtain rfl := Option.some.inj (hg.symm.trans a)
  obtain rfl := Option.some.inj (hy.symm.trans b)
  unfold Lib.TabIs
  rw [v, ← Lib.cells_of_tab ht he h1 h2 d]
theorem err_reads {W : World} {n s : String} {g : Nat} {d : DataW Unit} (hg : Tryd.prog.globalNamed n = some g) (hy : (Tryd.prog.globals[g]?).map (·.type) = some 58) (h : Lib.VarReads Tryd.prog W n (.iface s d)) : ∃ t p, W.var? Tryd.prog n = some #[.iface t p] := by
  obtain ⟨g', t', cs, f, p, a, b, v, d'⟩ := h
  obtain rfl := Option.some.inj (hg.symm.trans a)
  obtain rfl := Option.some.inj (hy.symm.trans b)
  obtain ⟨ms, hm⟩ : ∃ ms, Tryd.prog.underlying 58 = some (.interface ms) := ⟨_, Tryd.underlying58⟩
  obtain ⟨u, w, e⟩ := trod_if hm d'
  exact ⟨u, w, by rw [v, ← e]⟩
theorem tabs_of {W : World} (h : laidMet Tryd.prog Rows.arrayTextRow.laid W) : Tabs W := by
  have r1 : Lib.VarReads Tryd.prog W "internal/strconv.uint64pow10" Rows.laid_internal_strconv_uint64pow10 := Lib.laidMet.reads h (.tail _ (.tail _ (.head _)))
  have r2 : Lib.VarReads Tryd.prog W "strconv.ErrRange" Rows.laid_strconv_ErrRange := Lib.laidMet.reads h (.tail _ (.tail _ (.tail _ (.head _))))
  have r3 : Lib.VarReads Tryd.prog W "strconv.ErrSyntax" Rows.laid_strconv_ErrSyntax := Lib.laidMet.reads h (.tail _ (.tail _ (.tail _ (.tail _ (.head _)))))
  have r4 : Lib.VarReads Tryd.prog W "unicode.White_Space" Rows.laid_unicode_White_Space := Lib.laidMet.reads h (.tail _ (.tail _ (.tail _ (.tail _ (.tail _ (.head _))))))
  have r5 : Lib.VarReads Tryd.prog W "strings.asciiSpace" Rows.laid_strings_asciiSpace := Lib.laidMet.reads h (.tail _ (.tail _ (.tail _ (.tail _ (.tail _ (.tail _ (.head _)))))))
  refine ⟨?_, err_reads (g := 4) (by kernel_rfl) (by kernel_rfl) r3, err_reads (g := 5) (by kernel_rfl) (by kernel_rfl) r2, ?_, ?_⟩
  · exact tab_reads (g := 3) (t := 96) (e := 65) (m := 20) (by kernel_rfl) (by kernel_rfl) (by kernel_rfl) (by kernel_rfl) (by kernel_rfl) (by kernel_rfl) (by rw [show Lib.tabData .u64 Lib.pow10Tab = Rows.laid_internal_strconv_uint64pow10 by kernel_rfl]; exact r1)
  · exact tab_reads (g := 0) (t := 69) (e := 5) (m := 256) (by kernel_rfl) (by kernel_rfl) (by kernel_rfl) (by kernel_rfl) (by kernel_rfl) (by kernel_rfl) (by rw [show Lib.tabData .u8 Lib.asciiSpaceTab = Rows.laid_strings_asciiSpace by kernel_rfl]; exact r5)
  · exact whiteTab_of_reads Tryd.lays199 ⟨by kernel_rfl, by kernel_rfl, by kernel_rfl, by kernel_rfl, by kernel_rfl, by kernel_rfl, by kernel_rfl, by kernel_rfl⟩ (by rw [show Lib.whiteData = Rows.laid_unicode_White_Space by kernel_rfl]; exact r4)
end Go.Proofs.YtdndgmcmmbjjkaaDoor.Tx
