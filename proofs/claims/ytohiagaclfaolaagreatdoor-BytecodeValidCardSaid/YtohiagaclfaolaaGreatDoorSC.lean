/- Contracts of the library, laid by the shelf's plain mode. -/
import Derived.Shelf.Strings.Builder1
import Derived.Shelf.Strings.Builder2
import Derived.Shelf.Strings.OnBuilder
import Derived.Shelf.Strings.BuilderF
import Derived.Shelf.Strings.BuilderK
import Derived.Shelf.Utf8.RuneCount
import Derived.Shelf.Strings.Builder2Cap
import Derived.Shelf.Strconv.Atoi
import Derived.Shelf.Strconv.Itoa0
import Derived.Shelf.Strconv.Itoa1
import Derived.Shelf.LaysM
import Derived.Shelf.Strconv.Itoa2
import Derived.Shelf.Strconv.Itoa3
import Derived.Shelf.Strconv.AtoiErrFast
import Derived.Shelf.Strconv.ParseIntEmpty
import Derived.Shelf.Strconv.AtoiFail
import Derived.Shelf.Strconv.Clone
import Derived.Shelf.Strconv.SyntaxError
import Derived.Shelf.LaysC
import Derived.Shelf.Strconv.ToError
import Derived.Shelf.Strconv.AtoiErr
import Derived.Shelf.Strconv.ErrVar
import Derived.Shelf.Strconv.Lower
import Derived.Shelf.Strconv.ParseUint10
import Derived.Shelf.Strconv.ParseUint10Empty
import Derived.Shelf.Strconv.ParseUint10Any
import Derived.Shelf.Strconv.ParseInt10
import Derived.Shelf.Strconv.AtoiLong
import Derived.Shelf.Strconv.AtoiInnerAll
import Derived.Shelf.Strconv.RangeError
import Derived.Shelf.Strconv.ToErrorRange
import Derived.Shelf.Strconv.AtoiAll
import Derived.Shelf.Strconv.ErrVarAll
import Derived.Shelf.Strconv.ParseUintEmpty
import Derived.Shelf.Strconv.ParseUint10b64
import Derived.Shelf.Strings.Search1
import Derived.Shelf.Strings.Search2
import Derived.Shelf.Strings.Search3
import Derived.Shelf.Strings.Cut
import Derived.Shelf.Strings.Count
import Derived.Shelf.Strings.Shaped
import Derived.Shelf.Unicode.DecodeSlow
import Derived.Test.YtohiagaclfaolaaGreatDoorProg
import Derived.Test.YtohiagaclfaolaaGreatDoorSB
import Derived.Test.YtohiagaclfaolaaGreatDoorSA
import Derived.Test.YtohiagaclfaolaaGreatDoorRows
import Derived.OpenShut

set_option linter.all false

namespace Go.Proofs
open Go.Shelf
def Tryz.lays156_ren : Go.Shelf.Ren := ⟨fun | 156 => 82 | 165 => 104 | 166 => 47 | 169 => 49 | 240 => 80 | 241 => 115 | 276 => 102 | 277 => 127 | n => n, fun | 31 => 117 | 9 => 9 | 3 => 3 | 4 => 4 | 0 => 0 | 20 => 20 | 72 => 80 | 76 => 83 | 70 => 78 | 37 => 27 | 75 => 82 | 127 => 119 | 164 => 140 | 5 => 5 | 80 => 86 | n => n, fun | n => n⟩
theorem Tryz.lays156 : Go.Proofs.Lays.n156 Tryz.prog Tryz.lays156_ren := {
  mixed := by kernel_rfl
  f156 := Tryz.func82.trans (congrArg some (by kernel_rfl))
  f165 := Tryz.func104.trans (congrArg some (by kernel_rfl))
  f166 := Tryz.func47.trans (congrArg some (by kernel_rfl))
  f169 := Tryz.func49.trans (congrArg some (by kernel_rfl))
  f240 := Tryz.func80.trans (congrArg some (by kernel_rfl))
  f241 := Tryz.func115.trans (congrArg some (by kernel_rfl))
  f276 := Tryz.func102.trans (congrArg some (by kernel_rfl))
  f277 := Tryz.func127.trans (congrArg some (by kernel_rfl))
  t0 := Tryz.underlying0
  a0 := Tryz.isAgg0
  z0 := Tryz.sizeOf0
  v0 := Tryz.zeroValue0
  t3 := Tryz.underlying3
  a3 := Tryz.isAgg3
  z3 := Tryz.sizeOf3
  v3 := Tryz.zeroValue3
  t4 := Tryz.underlying4
  a4 := Tryz.isAgg4
  z4 := Tryz.sizeOf4
  v4 := Tryz.zeroValue4
  t9 := Tryz.underlying9
  a9 := Tryz.isAgg9
  z9 := Tryz.sizeOf9
  v9 := Tryz.zeroValue9
  t20 := Tryz.underlying20
  a20 := Tryz.isAgg20
  z20 := Tryz.sizeOf20
  v20 := Tryz.zeroValue20
  t31 := Tryz.underlying117
  a31 := Tryz.isAgg117
  z31 := Tryz.sizeOf117
  v31 := Tryz.zeroValue117
  t37 := Tryz.underlying27
  a37 := Tryz.isAgg27
  z37 := Tryz.sizeOf27
  v37 := Tryz.zeroValue27
  t70 := Tryz.underlying78
  a70 := Tryz.isAgg78
  z70 := Tryz.sizeOf78
  v70 := Tryz.zeroValue78
  t72 := Tryz.underlying80
  a72 := Tryz.isAgg80
  z72 := Tryz.sizeOf80
  v72 := Tryz.zeroValue80
  t75 := Tryz.underlying82
  a75 := Tryz.isAgg82
  z75 := Tryz.sizeOf82
  v75 := Tryz.zeroValue82
  t76 := Tryz.underlying83
  a76 := Tryz.isAgg83
  z76 := Tryz.sizeOf83
  v76 := Tryz.zeroValue83
  t127 := Tryz.underlying119
  a127 := Tryz.isAgg119
  z127 := Tryz.sizeOf119
  v127 := Tryz.zeroValue119
  t164 := Tryz.underlying140
  a164 := Tryz.isAgg140
  z164 := Tryz.sizeOf140
  v164 := Tryz.zeroValue140 }
theorem Tryz.Builder_Extra_156 : Builder.Extra Tryz.prog Tryz.lays156_ren := {
  sizeBuilder := by kernel_rfl
  liesBuilder := by kernel_rfl
  t5 := Tryz.underlying5
  a5 := Tryz.isAgg5
  z5 := Tryz.sizeOf5
  v5 := Tryz.zeroValue5
  infoByte := by kernel_rfl
  cellsByte := by kernel_rfl
  sizeByte := by kernel_rfl
  neB5 := by decide }
open Go.RowKit in
theorem Tryz.strings_Join_none (a : Option Addr) (c : Nat) (sep : ByteArray) (w : World) :
    Calls Tryz.prog 82 #[.slice a 0 c, .string sep] w fun e w' => e = .returned (.string ⟨#[]⟩) ∧ w' = w := Any.strings_Join_none Tryz.lays156 Tryz.Builder_Extra_156 a c sep w
open Go.RowKit in
theorem Tryz.strings_Join (bk o c : Nat) (xs : List ByteArray) (sep : ByteArray) (w : World) (hcells : ∀ (j : Nat) x, xs[j]? = some x → w.cell? ⟨bk, o + j, none⟩ = some (.string x)) (hbk : bk < w.heap.size) (hN : xs.length ≤ 140737488355328) (hcap : xs.length ≤ c) (hlen : (Lib.join (xs.map (·.data.toList)) sep.data.toList).length ≤ 140737488355328) :
    Calls Tryz.prog 82 #[.slice (some ⟨bk, o, none⟩) xs.length c, .string sep] w fun e w' => e = .returned (.string ⟨(Lib.join (xs.map (·.data.toList)) sep.data.toList).toArray⟩) ∧ Below w.heap.size w w' := Any.strings_Join Tryz.lays156 Tryz.Builder_Extra_156 bk o c xs sep w hcells hbk hN hcap hlen
def Tryz.lays172_ren : Go.Shelf.Ren := ⟨fun | 172 => 121 | 244 => 133 | 245 => 134 | 247 => 144 | 279 => 145 | 280 => 146 | 281 => 147 | 282 => 148 | 287 => 153 | 316 => 154 | 171 => 81 | 205 => 155 | 321 => 156 | 322 => 157 | 243 => 103 | 246 => 114 | 283 => 123 | 284 => 124 | 285 => 125 | 286 => 126 | 129 => 137 | 317 => 136 | 318 => 138 | 319 => 139 | 320 => 140 | 337 => 150 | 338 => 151 | n => n, fun | 9 => 9 | 3 => 3 | 75 => 82 | 76 => 83 | 4 => 4 | 5 => 5 | 167 => 178 | 37 => 27 | 0 => 0 | 85 => 179 | 2 => 2 | 168 => 181 | 53 => 95 | 175 => 186 | 46 => 131 | 210 => 190 | 127 => 119 | 145 => 201 | 143 => 199 | 21 => 21 | 171 => 161 | 173 => 163 | 212 => 172 | 51 => 166 | 20 => 20 | 213 => 173 | 232 => 192 | 233 => 193 | 80 => 86 | n => n, fun | 15 => 2 | 16 => 3 | 17 => 1 | 18 => 4 | 19 => 5 | n => n⟩
theorem Tryz.lays172 : Go.Proofs.Lays.n172 Tryz.prog Tryz.lays172_ren := {
  mixed := by kernel_rfl
  f129 := Tryz.func137.trans (congrArg some (by kernel_rfl))
  f171 := Tryz.func81.trans (congrArg some (by kernel_rfl))
  f172 := Tryz.func121.trans (congrArg some (by kernel_rfl))
  f205 := Tryz.func155.trans (congrArg some (by kernel_rfl))
  f243 := Tryz.func103.trans (congrArg some (by kernel_rfl))
  f244 := Tryz.func133.trans (congrArg some (by kernel_rfl))
  f245 := Tryz.func134.trans (congrArg some (by kernel_rfl))
  f246 := Tryz.func114.trans (congrArg some (by kernel_rfl))
  f247 := Tryz.func144.trans (congrArg some (by kernel_rfl))
  f279 := Tryz.func145.trans (congrArg some (by kernel_rfl))
  f280 := Tryz.func146.trans (congrArg some (by kernel_rfl))
  f281 := Tryz.func147.trans (congrArg some (by kernel_rfl))
  f282 := Tryz.func148.trans (congrArg some (by kernel_rfl))
  f283 := Tryz.func123.trans (congrArg some (by kernel_rfl))
  f284 := Tryz.func124.trans (congrArg some (by kernel_rfl))
  f285 := Tryz.func125.trans (congrArg some (by kernel_rfl))
  f286 := Tryz.func126.trans (congrArg some (by kernel_rfl))
  f287 := Tryz.func153.trans (congrArg some (by kernel_rfl))
  f316 := Tryz.func154.trans (congrArg some (by kernel_rfl))
  f317 := Tryz.func136.trans (congrArg some (by kernel_rfl))
  f318 := Tryz.func138.trans (congrArg some (by kernel_rfl))
  f319 := Tryz.func139.trans (congrArg some (by kernel_rfl))
  f320 := Tryz.func140.trans (congrArg some (by kernel_rfl))
  f321 := Tryz.func156.trans (congrArg some (by kernel_rfl))
  f322 := Tryz.func157.trans (congrArg some (by kernel_rfl))
  f337 := Tryz.func150.trans (congrArg some (by kernel_rfl))
  f338 := Tryz.func151.trans (congrArg some (by kernel_rfl))
  t0 := Tryz.underlying0
  a0 := Tryz.isAgg0
  z0 := Tryz.sizeOf0
  v0 := Tryz.zeroValue0
  t2 := Tryz.underlying2
  a2 := Tryz.isAgg2
  z2 := Tryz.sizeOf2
  v2 := Tryz.zeroValue2
  t3 := Tryz.underlying3
  a3 := Tryz.isAgg3
  z3 := Tryz.sizeOf3
  v3 := Tryz.zeroValue3
  t4 := Tryz.underlying4
  a4 := Tryz.isAgg4
  z4 := Tryz.sizeOf4
  v4 := Tryz.zeroValue4
  t5 := Tryz.underlying5
  a5 := Tryz.isAgg5
  z5 := Tryz.sizeOf5
  v5 := Tryz.zeroValue5
  t9 := Tryz.underlying9
  a9 := Tryz.isAgg9
  z9 := Tryz.sizeOf9
  v9 := Tryz.zeroValue9
  t20 := Tryz.underlying20
  a20 := Tryz.isAgg20
  z20 := Tryz.sizeOf20
  v20 := Tryz.zeroValue20
  t21 := Tryz.underlying21
  a21 := Tryz.isAgg21
  z21 := Tryz.sizeOf21
  v21 := Tryz.zeroValue21
  t37 := Tryz.underlying27
  a37 := Tryz.isAgg27
  z37 := Tryz.sizeOf27
  v37 := Tryz.zeroValue27
  t46 := Tryz.underlying131
  a46 := Tryz.isAgg131
  z46 := Tryz.sizeOf131
  v46 := Tryz.zeroValue131
  t51 := Tryz.underlying166
  a51 := Tryz.isAgg166
  z51 := Tryz.sizeOf166
  v51 := Tryz.zeroValue166
  t53 := Tryz.underlying95
  a53 := Tryz.isAgg95
  z53 := Tryz.sizeOf95
  v53 := Tryz.zeroValue95
  t75 := Tryz.underlying82
  a75 := Tryz.isAgg82
  z75 := Tryz.sizeOf82
  v75 := Tryz.zeroValue82
  t76 := Tryz.underlying83
  a76 := Tryz.isAgg83
  z76 := Tryz.sizeOf83
  v76 := Tryz.zeroValue83
  t85 := Tryz.underlying179
  a85 := Tryz.isAgg179
  z85 := Tryz.sizeOf179
  v85 := Tryz.zeroValue179
  t127 := Tryz.underlying119
  a127 := Tryz.isAgg119
  z127 := Tryz.sizeOf119
  v127 := Tryz.zeroValue119
  t143 := Tryz.underlying199
  a143 := Tryz.isAgg199
  z143 := Tryz.sizeOf199
  v143 := Tryz.zeroValue199
  t145 := Tryz.underlying201
  a145 := Tryz.isAgg201
  z145 := Tryz.sizeOf201
  v145 := Tryz.zeroValue201
  t167 := Tryz.underlying178
  a167 := Tryz.isAgg178
  z167 := Tryz.sizeOf178
  v167 := Tryz.zeroValue178
  t168 := Tryz.underlying181
  a168 := Tryz.isAgg181
  z168 := Tryz.sizeOf181
  v168 := Tryz.zeroValue181
  t171 := Tryz.underlying161
  a171 := Tryz.isAgg161
  z171 := Tryz.sizeOf161
  v171 := Tryz.zeroValue161
  t173 := Tryz.underlying163
  a173 := Tryz.isAgg163
  z173 := Tryz.sizeOf163
  v173 := Tryz.zeroValue163
  t175 := Tryz.underlying186
  a175 := Tryz.isAgg186
  z175 := Tryz.sizeOf186
  v175 := Tryz.zeroValue186
  t210 := Tryz.underlying190
  a210 := Tryz.isAgg190
  z210 := Tryz.sizeOf190
  v210 := Tryz.zeroValue190
  t212 := Tryz.underlying172
  a212 := Tryz.isAgg172
  z212 := Tryz.sizeOf172
  v212 := Tryz.zeroValue172
  t213 := Tryz.underlying173
  a213 := Tryz.isAgg173
  z213 := Tryz.sizeOf173
  t232 := Tryz.underlying192
  a232 := Tryz.isAgg192
  z232 := Tryz.sizeOf192
  v232 := Tryz.zeroValue192
  t233 := Tryz.underlying193
  a233 := Tryz.isAgg193
  z233 := Tryz.sizeOf193
  v233 := Tryz.zeroValue193
  g15 := by kernel_rfl
  g16 := by kernel_rfl
  g17 := by kernel_rfl
  g18 := by kernel_rfl
  g19 := by kernel_rfl }
open Go.RowKit in
theorem Tryz.strconv_Atoi (s : ByteArray) (n : Int) (hl : s.size ≤ 18) (h : Lib.atoi s.data.toList = some n) (w : World) :
    Calls Tryz.prog 121 #[.string s] w fun e w' => e = .returned (.tuple #[.int .i64 n, .nilIface]) ∧ ∃ t, w' = Lib.bytesWorld w 5 t := Any.strconv_Atoi Tryz.lays172 s n hl h w
def Tryz.lays171_ren : Go.Shelf.Ren := ⟨fun | 171 => 81 | 243 => 103 | 246 => 114 | 283 => 123 | 284 => 124 | 285 => 125 | 286 => 126 | 129 => 137 | 317 => 136 | 318 => 138 | 319 => 139 | 320 => 140 | 337 => 150 | 338 => 151 | n => n, fun | 3 => 3 | 9 => 9 | 2 => 2 | 4 => 4 | 171 => 161 | 0 => 0 | 53 => 95 | 37 => 27 | 5 => 5 | 173 => 163 | 212 => 172 | 51 => 166 | 20 => 20 | 213 => 173 | 46 => 131 | 232 => 192 | 233 => 193 | n => n, fun | 17 => 1 | 18 => 4 | 19 => 5 | n => n⟩
theorem Tryz.lays171 : Go.Proofs.Lays.n171 Tryz.prog Tryz.lays171_ren := {
  mixed := by kernel_rfl
  f129 := Tryz.func137.trans (congrArg some (by kernel_rfl))
  f171 := Tryz.func81.trans (congrArg some (by kernel_rfl))
  f243 := Tryz.func103.trans (congrArg some (by kernel_rfl))
  f246 := Tryz.func114.trans (congrArg some (by kernel_rfl))
  f283 := Tryz.func123.trans (congrArg some (by kernel_rfl))
  f284 := Tryz.func124.trans (congrArg some (by kernel_rfl))
  f285 := Tryz.func125.trans (congrArg some (by kernel_rfl))
  f286 := Tryz.func126.trans (congrArg some (by kernel_rfl))
  f317 := Tryz.func136.trans (congrArg some (by kernel_rfl))
  f318 := Tryz.func138.trans (congrArg some (by kernel_rfl))
  f319 := Tryz.func139.trans (congrArg some (by kernel_rfl))
  f320 := Tryz.func140.trans (congrArg some (by kernel_rfl))
  f337 := Tryz.func150.trans (congrArg some (by kernel_rfl))
  f338 := Tryz.func151.trans (congrArg some (by kernel_rfl))
  t0 := Tryz.underlying0
  a0 := Tryz.isAgg0
  z0 := Tryz.sizeOf0
  v0 := Tryz.zeroValue0
  t2 := Tryz.underlying2
  a2 := Tryz.isAgg2
  z2 := Tryz.sizeOf2
  v2 := Tryz.zeroValue2
  t3 := Tryz.underlying3
  a3 := Tryz.isAgg3
  z3 := Tryz.sizeOf3
  v3 := Tryz.zeroValue3
  t4 := Tryz.underlying4
  a4 := Tryz.isAgg4
  z4 := Tryz.sizeOf4
  v4 := Tryz.zeroValue4
  t5 := Tryz.underlying5
  a5 := Tryz.isAgg5
  z5 := Tryz.sizeOf5
  v5 := Tryz.zeroValue5
  t9 := Tryz.underlying9
  a9 := Tryz.isAgg9
  z9 := Tryz.sizeOf9
  v9 := Tryz.zeroValue9
  t20 := Tryz.underlying20
  a20 := Tryz.isAgg20
  z20 := Tryz.sizeOf20
  v20 := Tryz.zeroValue20
  t37 := Tryz.underlying27
  a37 := Tryz.isAgg27
  z37 := Tryz.sizeOf27
  v37 := Tryz.zeroValue27
  t46 := Tryz.underlying131
  a46 := Tryz.isAgg131
  z46 := Tryz.sizeOf131
  v46 := Tryz.zeroValue131
  t51 := Tryz.underlying166
  a51 := Tryz.isAgg166
  z51 := Tryz.sizeOf166
  v51 := Tryz.zeroValue166
  t53 := Tryz.underlying95
  a53 := Tryz.isAgg95
  z53 := Tryz.sizeOf95
  v53 := Tryz.zeroValue95
  t171 := Tryz.underlying161
  a171 := Tryz.isAgg161
  z171 := Tryz.sizeOf161
  v171 := Tryz.zeroValue161
  t173 := Tryz.underlying163
  a173 := Tryz.isAgg163
  z173 := Tryz.sizeOf163
  v173 := Tryz.zeroValue163
  t212 := Tryz.underlying172
  a212 := Tryz.isAgg172
  z212 := Tryz.sizeOf172
  v212 := Tryz.zeroValue172
  t213 := Tryz.underlying173
  a213 := Tryz.isAgg173
  z213 := Tryz.sizeOf173
  t232 := Tryz.underlying192
  a232 := Tryz.isAgg192
  z232 := Tryz.sizeOf192
  v232 := Tryz.zeroValue192
  t233 := Tryz.underlying193
  a233 := Tryz.isAgg193
  z233 := Tryz.sizeOf193
  v233 := Tryz.zeroValue193
  g17 := by kernel_rfl
  g18 := by kernel_rfl
  g19 := by kernel_rfl }
open Go.RowKit Go.Sort Go.Lib in
theorem Tryz.strconv_Itoa_small (i : Nat) (hi : i < 100) (w : World) :
    Calls Tryz.prog 81 #[.int .i64 i] w fun e w' => e = .returned (.string ⟨(Lib.decDigits i).toArray⟩) ∧ w' = w := Any.strconv_Itoa_small Tryz.lays171 i hi w
end Go.Proofs

/- Numbers read and written; texts joined (the kit's shelf). -/
namespace Go.Proofs.YtohiagaclfaolaaGreatDoor.Tx
open Go.Proofs.YtohiagaclfaolaaGreatDoor
open Go Go.Fw
set_option maxRecDepth 20000
/-- A function whose call returns a value and leaves more blocks at most. -/
theorem pc_below {P : Program} {f : FuncId} {args : List AV} {v : Value} (h : ∀ (C : Nat → Nat → Option Value) (w : World) (vs : List Value), RL C args vs → (∀ k o u, C k o = some u → w.cell? ⟨k, o, none⟩ = some u) → Calls P f vs.toArray w fun e w' => e = .returned v ∧ RowKit.Below w.heap.size w w') : PC P f args (.lit v) := by
  intro C w vs hl hin
  refine (h C w vs hl hin.1).mono ?_
  rintro e w' ⟨rfl, hb⟩
  have hm := More.of_below hb
  exact ⟨v, C, rfl, CLe.refl _, .lit _, ⟨fun k o u hu => hm.cell (hin.1 k o u hu), hin.2.up hm.block⟩, hm, fun _ _ _ => rfl⟩
theorem lit1 {C : Nat → Nat → Option Value} {a : Value} {vs : List Value} (h : RL C [.lit a] vs) : vs = [a] := by
  obtain ⟨h1, h2⟩ := h
  match vs, h1 with
  | [x], _ => have h := h2 0 (by simp); simp only [List.getD_cons_zero] at h; cases h; rfl
theorem below_refl (w : World) : RowKit.Below w.heap.size w w := More.below (More.refl w)
theorem atoi_pc {s : ByteArray} {n : Int} (hl : s.size ≤ 18) (h : Lib.atoi s.data.toList = some n) : PC Tryz.prog 121 [.lit (.string s)] (.lit (.tuple #[.int .i64 n, .nilIface])) := by
  refine pc_below fun C w vs hv _ => ?_
  rw [lit1 hv]
  refine (Tryz.strconv_Atoi s n hl h w).mono ?_
  rintro e w' ⟨rfl, t, rfl⟩
  exact ⟨rfl, rfl, rfl, rfl, by rw [Lib.bytesWorld_size]; omega, fun j hj => Lib.bytesWorld_at_old w 5 t j hj⟩
theorem itoa_pc {i : Nat} (hi : i < 100) : PC Tryz.prog 81 [.lit (.int .i64 i)] (.lit (.string (bs (Lib.decDigits i)))) := by
  refine pc_below fun C w vs hv _ => ?_
  rw [lit1 hv]
  refine (Tryz.strconv_Itoa_small i hi w).mono ?_
  rintro e w' ⟨rfl, rfl⟩
  exact ⟨rfl, below_refl w'⟩
theorem join_pc {xs : List (List UInt8)} {sep : List UInt8} (hx : xs.length ≤ 1000000) (hl : (Lib.join xs sep).length ≤ 1000000) : PC Tryz.prog 82 [.sl false 1 (txs xs), .lit (.string (bs sep))] (.lit (.string (bs (Lib.join xs sep)))) := by
  refine pc_below fun C w vs hv hin => ?_
  obtain ⟨h1, h2⟩ := hv
  match vs, h1 with
  | [a, b], _ =>
    have ha : RC C (.sl false 1 (txs xs)) a := h2 0 (by simp)
    have hb : RC C (.lit (.string (bs sep))) b := h2 1 (by simp)
    have eb : b = .string (bs sep) := by
      generalize b = b at hb
      cases hb; rfl
    subst eb
    generalize hX : txs xs = X at ha
    cases ha with
    | nil full sz p =>
      have : xs = [] := by
        cases xs with
        | nil => rfl
        | cons x l => cases hX
      subst this
      refine (Tryz.strings_Join_none p 0 (bs sep) w).mono ?_
      rintro e w' ⟨rfl, rfl⟩
      exact ⟨rfl, below_refl w'⟩
    | sl full sz X b off cap f hc hm hf hw hC h1' hR =>
      subst hX
      have hfl : flat (txs xs) = txs xs := flat_lits (fun w => .string (bs w)) xs
      have hlen : (txs xs).length = xs.length := txs_length xs
      rw [hfl, hlen] at hC hR h1'
      have hcell : ∀ (j : Nat) (x : ByteArray), (xs.map bs)[j]? = some x → w.cell? ⟨b, off + j, none⟩ = some (.string x) := fun j x hj => by
        have hj2 : j < xs.length := by have := (List.getElem?_eq_some_iff.1 hj).1; simpa using this
        have hr := hR j hj2
        have e : (txs xs).getD j .top = .lit (.string x) := by
          simp only [List.getElem?_map] at hj
          simp only [txs, List.getD_eq_getElem?_getD, List.getElem?_map]
          cases hq : xs[j]? with
          | none => rw [hq] at hj; cases hj
          | some y => rw [hq] at hj; cases hj; rfl
        rw [e] at hr
        have hv : f j = .string x := by
          generalize f j = v at hr
          cases hr; rfl
        rw [hin _ _ _ (hC j hj2), hv]
      by_cases h0 : xs.length = 0
      · have hx0 : xs = [] := List.length_eq_zero_iff.1 h0
        subst hx0
        refine (Tryz.strings_Join_none _ cap (bs sep) w).mono ?_
        rintro e w' ⟨rfl, rfl⟩
        exact ⟨rfl, below_refl w'⟩
      · have hb : b < w.heap.size := by
          have h := hC 0 (by omega)
          exact World.block_lt_of_cell? w _ (hin _ _ _ h)
        have hmap : (xs.map bs).map (fun x : ByteArray => x.data.toList) = xs := by simp [List.map_map, Function.comp_def, data_bs]
        have hj := Tryz.strings_Join b off cap (xs.map bs) (bs sep) w hcell hb (by rw [List.length_map]; omega) (by rw [List.length_map, ← hlen]; exact hc) (by rw [hmap, data_bs]; omega)
        rw [hmap, data_bs, List.length_map, ← hlen] at hj
        exact hj.mono fun e w' h => h
end Go.Proofs.YtohiagaclfaolaaGreatDoor.Tx

/- Numbers of operands; the form with a name. -/
namespace Go.Proofs.YtohiagaclfaolaaGreatDoor.Tx
open Go.Proofs.YtohiagaclfaolaaGreatDoor
open Go Go.Fw
set_option maxRecDepth 20000
theorem pc_tup2 {P : Program} {f : FuncId} {args : List AV} {a b : Value} (h : PC P f args (.lit (.tuple #[a, b]))) : PC P f args (.tup [.lit a, .lit b]) := by
  intro C w vs hl hin
  refine (h C w vs hl hin).mono ?_
  rintro e w' ⟨v, C', rfl, h1, h2, h3⟩
  refine ⟨v, C', rfl, h1, ?_, h3⟩
  have e1 : v = .tuple #[a, b] := by generalize hz : (AV.lit (Value.tuple #[a, b])) = z at h2; cases h2 <;> first | (cases hz; rfl) | cases hz
  subst e1
  refine RC.tup [.lit a, .lit b] [a, b] rfl fun i hi => ?_
  match i, hi with
  | 0, _ => exact .lit _
  | 1, _ => exact .lit _
noncomputable def con121 : PCon Tryz.prog where
  f := 121
  c := fun
    | [.lit (.string s)] => match Lib.atoi (ul s) with
      | some n => some ((ul s).length ≤ 18, .tup [.lit (.int .i64 n), .lit .nilIface])
      | none => none
    | _ => none
  ok := by
    intro args p r hc hp
    split at hc
    · rename_i s
      split at hc
      · rename_i n hn
        cases hc
        refine pc_tup2 (atoi_pc ?_ hn)
        have : s.size = (ul s).length := (Array.length_toList).symm
        omega
      · cases hc
    · cases hc
  fk := fk121
theorem con121_f : con121.f = 121 := rfl
theorem con121_c {l : List UInt8} : con121.c [.lit (.string (bs l))] = match Lib.atoi l with
      | some n => some (l.length ≤ 18, .tup [.lit (.int .i64 n), .lit .nilIface])
      | none => none := by
  show (match Lib.atoi (ul (bs l)) with
      | some n => some ((ul (bs l)).length ≤ 18, AV.tup [.lit (.int .i64 n), .lit .nilIface])
      | none => none) = _
  rw [ul_bs]
attribute [go_sem] con121_f con121_c
noncomputable def Z0 : Env := envJ (P := Tryz.prog) jkT zer (fun _ => false) (fun _ => false) [con121, con122] []
theorem Z0_ok : EnvOk Tryz.prog Z0 := envJOk zer_ok
theorem integer_pc {l : List UInt8} {n : Int} (h : Lib.atoi (trimP [114] l) = some n) (hl : (trimP [114] l).length ≤ 18) : PC Tryz.prog 110 [.lit (.string (bs l))] (.lit (.int .i64 n)) := by
  refine pcR Z0_ok (kp110) Tryz.func110 [.tmp 2] (h := fun KF => ?_)
  unfold Z0
  repeat' (first
   | (with_reducible first | refine nx ?_ | refine t_seq fun K => ?_ | refine t_br (fun hc => ?_) fun hc => ?_ | refine t_bx ?_ | apply And.intro | intro vr)
   | ((with_reducible first | refine ny ?_ | refine t_dwh (h := fun K KL => ?_)); intros; simp only [go_sem, kp110, geff, h, yes]))
  all_goals try exact nd
  all_goals (refine nl ?_; simp only [go_sem])
  exact LeA.refl _
noncomputable def con110 : PCon Tryz.prog where
  f := 110
  c := fun
    | [.lit (.string s)] => match Lib.atoi (trimP [114] (ul s)) with
      | some n => some ((trimP [114] (ul s)).length ≤ 18, .lit (.int .i64 n))
      | none => none
    | _ => none
  ok := by
    intro args p r hc hp
    split at hc
    · rename_i s
      split at hc
      · rename_i n hn
        cases hc
        obtain ⟨l, rfl⟩ := bs_ex s
        rw [ul_bs] at hn hp
        exact integer_pc hn hp
      · cases hc
    · cases hc
  fk := fk110
theorem con110_f : con110.f = 110 := rfl
theorem con110_c {l : List UInt8} : con110.c [.lit (.string (bs l))] = match Lib.atoi (trimP [114] l) with
      | some n => some ((trimP [114] l).length ≤ 18, .lit (.int .i64 n))
      | none => none := by
  show (match Lib.atoi (trimP [114] (ul (bs l))) with
      | some n => some ((trimP [114] (ul (bs l))).length ≤ 18, AV.lit (.int .i64 n))
      | none => none) = _
  rw [ul_bs]
attribute [go_sem] con110_f con110_c
/-! The form with a name. -/
theorem txs_hd (w : List UInt8) (l : List (List UInt8)) : (txs (w :: l)).getD 0 (.lit (.string (bs []))) = .lit (.string (bs w)) := rfl
noncomputable def Z1 : Env := envJ (P := Tryz.prog) jkT zer (fun _ => false) (fun _ => false) [] []
theorem Z1_ok : EnvOk Tryz.prog Z1 := envJOk zer_ok
theorem named_ec {b0 : AObj} {n : ByteArray} {a b c : AV} {fl : Bool} {w : List UInt8} {ws : List (List UInt8)} {b2 : AObj} {k : AV → List AObj → Prop} (hs : (AV.agg [.lit (.string n), a, b, c]).solid = true)
    (hc : (AV.agg [.lit (.string n), a, b, c]).cells = [.lit (.string n), a, b, c])
    (hk : k (.lit (.bool (eqS n (bs w)))) [b0, .box 117 [.sl fl 1 (txs (w :: ws))], b2]) :
    EC Tryz.prog 109 [.agg [.lit (.string n), a, b, c], .ref 1 0] [b0, .box 117 [.sl fl 1 (txs (w :: ws))], b2] k := by
  refine ec_fin fun hbd => ?_
  refine ecR Z1_ok (kp109) Tryz.func109 [.tmp 3] (h := fun KF => ?_)
  unfold Z1
  repeat' (first
   | (with_reducible first | refine nx ?_ | refine t_seq fun K => ?_ | refine t_br (fun hc => ?_) fun hc => ?_ | refine t_bx ?_ | apply And.intro | intro vr)
   | ((with_reducible first | refine ny ?_ | refine t_dwh (h := fun K KL => ?_)); intros; simp only [go_sem, kp109, geff, hs, hc, txs_hd, txs_length, List.length_cons, yes]))
  all_goals try exact nd
  all_goals (refine nl ?_; simp only [go_sem, finE])
  exact ⟨_, _, rfl, LeA.refl _, hbd, hk⟩
end Go.Proofs.YtohiagaclfaolaaGreatDoor.Tx

/- The code of a name: the forms' list looked through. -/
namespace Go.Proofs.YtohiagaclfaolaaGreatDoor.Tx
open Go.Proofs.YtohiagaclfaolaaGreatDoor
open Go Go.Fw
set_option maxRecDepth 20000
/-- What is known of the forms' cells. -/
structure FormsC (cs : List AV) (nm : Nat → ByteArray) (A C : Nat → AV) (B : Nat → Bool) : Prop where
  hA : ∀ i, i < 16 → (∃ p, A i = .sl true 1 p) ∨ A i = .lit (.slice none 0 0)
  hC : ∀ i, i < 16 → (∃ p, C i = .sl true 1 p) ∨ C i = .lit (.slice none 0 0)
  len : cs.length = 64
  at_ : ∀ i, i < 16 → (cs.drop (i * 4)).take 4 = [.lit (.string (nm i)), A i, .lit (.bool (B i)), C i]
  sol : ∀ i, i < 16 → (AV.agg [.lit (.string (nm i)), A i, .lit (.bool (B i)), C i]).solid = true
  cel : ∀ i, i < 16 → (AV.agg [.lit (.string (nm i)), A i, .lit (.bool (B i)), C i]).cells = [.lit (.string (nm i)), A i, .lit (.bool (B i)), C i]
noncomputable def ecn109 : ECon Tryz.prog where
  f := 109
  c := fun args σ k => match args, σ with
    | [.agg [.lit (.string n), a, b, c], .ref 1 0], [b0, .box 117 [.sl fl 1 l], b2] => match l with
      | .lit (.string w) :: l' => ∃ ws, l' = txs ws ∧ (AV.agg [.lit (.string n), a, b, c]).solid = true ∧ (AV.agg [.lit (.string n), a, b, c]).cells = [.lit (.string n), a, b, c] ∧ k (.lit (.bool (eqS n w))) [b0, .box 117 [.sl fl 1 l], b2]
      | _ => False
    | _, _ => False
  ok := by
    intro args σ k h
    split at h
    · split at h
      · rename_i w l'
        obtain ⟨ws, rfl, h1, h2, h3⟩ := h
        obtain ⟨w, rfl⟩ := bs_ex w
        exact named_ec (ws := ws) h1 h2 h3
      · exact h.elim
    · exact h.elim
  fk := fk109
theorem ecn109_f : ecn109.f = 109 := rfl
theorem ecn109_c {n : ByteArray} {a b c : AV} {fl : Bool} {b0 b2 : AObj} {w : List UInt8} {ws : List (List UInt8)} {k : AV → List AObj → Prop} : ecn109.c [.agg [.lit (.string n), a, b, c], .ref 1 0] [b0, .box 117 [.sl fl 1 (txs (w :: ws))], b2] k =
    (∃ us, txs ws = txs us ∧ (AV.agg [.lit (.string n), a, b, c]).solid = true ∧ (AV.agg [.lit (.string n), a, b, c]).cells = [.lit (.string n), a, b, c] ∧ k (.lit (.bool (eqS n (bs w)))) [b0, .box 117 [.sl fl 1 (txs (w :: ws))], b2]) := rfl
theorem ex_txs {ws : List (List UInt8)} {p q r : Prop} : (∃ us, txs ws = txs us ∧ p ∧ q ∧ r) = (p ∧ q ∧ r) := by
  apply propext
  exact ⟨fun ⟨_, _, h⟩ => h, fun h => ⟨ws, rfl, h⟩⟩
theorem ex_txs1 {ws : List (List UInt8)} {p : Prop} : (∃ us, txs ws = txs us ∧ p) = p := by
  apply propext
  exact ⟨fun ⟨_, _, h⟩ => h, fun h => ⟨ws, rfl, h⟩⟩
attribute [go_sem] ecn109_f ecn109_c ex_txs ex_txs1
noncomputable def Z2 : Env := envJ (P := Tryz.prog) jkT zer (fun _ => false) (fun _ => false) [] [ecn109]
theorem Z2_ok : EnvOk Tryz.prog Z2 := envJOk zer_ok
def idxF (nm : Nat → ByteArray) (w : List UInt8) : Nat → Nat → Int
  | 0, _ => -1
  | f + 1, i => if eqS (nm i) (bs w) = true then (i : Int) else idxF nm w f (i + 1)
set_option maxHeartbeats 1000000 in
theorem idxf_ec {cs : List AV} {nm : Nat → ByteArray} {A C : Nat → AV} {B : Nat → Bool} (hf : FormsC cs nm A C B) {b0 : AObj} {fl : Bool} {w : List UInt8} {ws : List (List UInt8)} {t : TypeId} {k : AV → List AObj → Prop}
    (hk : k (.lit (.int .i64 (idxF nm w 16 0))) [b0, .box 117 [.sl fl 1 (txs (w :: ws))], .box t cs]) :
    EC Tryz.prog 108 [.bsl 2 16, .fn (.func 109) [] [.ref 1 0]] [b0, .box 117 [.sl fl 1 (txs (w :: ws))], .box t cs] k := by
  generalize hR : idxF nm w 16 0 = R at hk
  have h64 := hf.len
  refine ecR Z2_ok (kp108) Tryz.func108 [.tmp 4] (h := fun KF => ?_)
  unfold Z2
  repeat' (first
   | (with_reducible first | refine nx ?_ | refine t_seq fun K => ?_ | refine t_br (fun hc => ?_) fun hc => ?_ | refine t_bx ?_ | apply And.intro | intro vr)
   | ((with_reducible first | refine ny ?_ | refine t_dwh (h := fun K KL => ?_)); intros; simp only [go_sem, kp108, geff]))
  all_goals try exact nd
  refine t_loopF (ι := { i : Nat // i ≤ 16 ∧ idxF nm w (16 - i) i = R }) (fun i => [(8, .lit (.int .i64 i.1))]) (fun i => [b0, .box 117 [.sl fl 1 (txs (w :: ws))], .box t cs]) (fun i => 16 - i.1) ⟨0, by omega, hR⟩ ?_ ?_
  · exact lf
  rintro ⟨i, hi, hF⟩ K0
  rcases Nat.lt_or_ge i 16 with hc | hc
  · have g3 : decide ((i : Int) < ((16 : Nat) : Int)) = true := decide_eq_true (by omega)
    have g4 : i * 4 + 4 ≤ cs.length := by omega
    have ha := hf.at_ i hc
    have hs := hf.sol i hc
    have hl := hf.cel i hc
    rw [show 16 - i = (15 - i) + 1 by omega, idxF] at hF
    have hlt : (i : Int) < 16 := by omega
    generalize B i = bi at ha hs hl
    rcases hf.hA i hc with ⟨p, e1⟩ | e1 <;> rcases hf.hC i hc with ⟨q, e2⟩ | e2
    all_goals
      rw [e1, e2] at ha hs hl
      cases h4 : eqS (nm i) (bs w) with
      | true =>
        rw [if_pos h4] at hF
        repeat' (first
         | (with_reducible first | refine nx ?_ | refine t_seq fun K => ?_ | refine t_br (fun hc => ?_) fun hc => ?_ | refine t_bx ?_ | apply And.intro | intro vr)
         | ((with_reducible first | refine ny ?_ | refine t_dwh (h := fun K KL => ?_)); intros; simp only [go_sem, kp108, geff, g3, hlt, g4, ha, hs, hl, h4, Int.toNat_natCast, yes]))
        all_goals try exact nd
        all_goals (refine nl ?_; simp only [go_sem])
        rw [hF]; exact hk
      | false =>
        rw [if_neg (by rw [h4]; decide)] at hF
        repeat' (first
         | (with_reducible first | refine nx ?_ | refine t_seq fun K => ?_ | refine t_br (fun hc => ?_) fun hc => ?_ | refine t_bx ?_ | apply And.intro | intro vr)
         | ((with_reducible first | refine ny ?_ | refine t_dwh (h := fun K KL => ?_)); intros; simp only [go_sem, kp108, geff, g3, hlt, g4, ha, hs, hl, h4, Int.toNat_natCast, yes]))
        all_goals try exact nd
        exact ⟨⟨i + 1, by omega, by rw [← hF]; congr 1; omega⟩, wf, lf⟩
  · have g3 : decide ((i : Int) < ((16 : Nat) : Int)) = false := decide_eq_false (by omega)
    rw [show 16 - i = 0 by omega, idxF] at hF
    repeat' (first
     | (with_reducible first | refine nx ?_ | refine t_seq fun K => ?_ | refine t_br (fun hc => ?_) fun hc => ?_ | refine t_bx ?_ | apply And.intro | intro vr)
     | ((with_reducible first | refine ny ?_ | refine t_dwh (h := fun K KL => ?_)); intros; simp only [go_sem, kp108, geff, g3]))
    all_goals try exact nd
    all_goals (refine nl ?_; simp only [go_sem])
    rw [hF]; exact hk
end Go.Proofs.YtohiagaclfaolaaGreatDoor.Tx

/- The line of an instruction: the program's. -/
namespace Go.Proofs.YtohiagaclfaolaaGreatDoor.Tx
open Go.Proofs.YtohiagaclfaolaaGreatDoor
open Go Go.Fw Bm
set_option maxRecDepth 20000
def opW (k n : Int) : List UInt8 := (if k = 0 then [114] else []) ++ Lib.itoa n
def opI (x : Ins) (i : Nat) : Int := [x.a, x.b, x.c, x.d].getD i 0
def headW (x : Ins) : List (List UInt8) := ul (namL x.code) :: (if x.code = 5 then [ul x.prim] else [])
def restW (x : Ins) (j : Nat) : List (List UInt8) := (List.range j).map fun i => opW ((kndS x).getD i 0) (opI x i)
def wordsB (x : Ins) : List (List UInt8) := headW x ++ restW x (kndS x).length
def lineB (x : Ins) : List UInt8 := Lib.join (wordsB x) [32]
theorem restW_succ (x : Ins) (i : Nat) : restW x i ++ [opW ((kndS x).getD i 0) (opI x i)] = restW x (i + 1) := by simp [restW, List.range_succ]
theorem bs_ul (s : ByteArray) : bs (ul s) = s := bs_data s
noncomputable def con81 : PCon Tryz.prog where
  f := 81
  c := fun
    | [.lit (.int .i64 n)] => some (0 ≤ n ∧ n < 100, .lit (.string (bs (Lib.itoa n))))
    | _ => none
  ok := by
    intro args p r hc hp
    split at hc
    · rename_i n
      cases hc
      obtain ⟨h0, h1⟩ := hp
      obtain ⟨i, rfl⟩ : ∃ i : Nat, n = i := ⟨n.toNat, by omega⟩
      have e : Lib.itoa (i : Int) = Lib.decDigits i := by
        unfold Lib.itoa
        rw [if_neg (by omega), Int.toNat_natCast]
      rw [e]
      exact itoa_pc (by omega)
    · cases hc
  fk := fk81
theorem con81_f : con81.f = 81 := rfl
theorem con81_c {n : Int} : con81.c [.lit (.int .i64 n)] = some (0 ≤ n ∧ n < 100, .lit (.string (bs (Lib.itoa n)))) := rfl
def unT : List AV → Option (List (List UInt8))
  | [] => some []
  | .lit (.string s) :: l => (unT l).map fun m => ul s :: m
  | _ :: _ => none
theorem unT_txs : ∀ l : List (List UInt8), unT (txs l) = some l
  | [] => rfl
  | w :: l => by
    show (unT (txs l)).map (fun m => ul (bs w) :: m) = _
    rw [unT_txs l, ul_bs]; rfl
theorem unT_inv : ∀ {xs : List AV} {l : List (List UInt8)}, unT xs = some l → xs = txs l
  | [], l, h => by cases h; rfl
  | .lit (.string s) :: xs, l, h => by
    simp only [unT, Option.map_eq_some_iff] at h
    obtain ⟨m, h1, rfl⟩ := h
    rw [unT_inv h1]
    simp [txs, bs_ul]
noncomputable def con82 : PCon Tryz.prog where
  f := 82
  c := fun
    | [.sl _ 1 xs, .lit (.string sep)] => match unT xs with
      | some l => some (l.length ≤ 1000000 ∧ (Lib.join l (ul sep)).length ≤ 1000000, .lit (.string (bs (Lib.join l (ul sep)))))
      | none => none
    | _ => none
  ok := by
    intro args p r hc hp
    split at hc
    · rename_i xs sep
      split at hc
      · rename_i l hl
        cases hc
        rw [unT_inv hl]
        have h := join_pc (xs := l) (sep := ul sep) hp.1 hp.2
        rw [bs_ul] at h
        exact PC.weak h ⟨LeA.full _ _ _, LeA.refl _, trivial⟩
      · cases hc
    · cases hc
  fk := fk82
theorem con82_f : con82.f = 82 := rfl
theorem con82_c {b : Bool} {l : List (List UInt8)} {sep : List UInt8} : con82.c [.sl b 1 (txs l), .lit (.string (bs sep))] = some (l.length ≤ 1000000 ∧ (Lib.join l sep).length ≤ 1000000, .lit (.string (bs (Lib.join l sep)))) := by
  show (match unT (txs l) with
      | some l => some (l.length ≤ 1000000 ∧ (Lib.join l (ul (bs sep))).length ≤ 1000000, AV.lit (.string (bs (Lib.join l (ul (bs sep))))))
      | none => none) = _
  rw [unT_txs, ul_bs]
theorem con82_c32 {b : Bool} {l : List (List UInt8)} : con82.c [.sl b 1 (txs l), .lit (.string (bs [32]))] = some (l.length ≤ 1000000 ∧ (Lib.join l [32]).length ≤ 1000000, .lit (.string (bs (Lib.join l [32])))) := con82_c
theorem r_bs (l : List UInt8) : (⟨#[114]⟩ : ByteArray) ++ bs l = bs (114 :: l) := by rw [show (⟨#[114]⟩ : ByteArray) = bs [114] from rfl, bs_app]; rfl
theorem itoa_len {n : Int} (h0 : 0 ≤ n) (h1 : n < 100) : (Lib.itoa n).length ≤ 2 := by
  obtain ⟨i, rfl⟩ : ∃ i : Nat, n = i := ⟨n.toNat, by omega⟩
  have h : ∀ i < 100, (Lib.itoa ((i : Nat) : Int)).length ≤ 2 := by decide +kernel
  exact h i (by omega)
theorem txs_app1 (l : List (List UInt8)) (w : List UInt8) : txs l ++ txs [w] = txs (l ++ [w]) := by simp [txs]
attribute [go_sem] con82_c32 con81_f con81_c con82_f con82_c con76_f con76_c con77_f con77_c
noncomputable def Y0 : Env := envJ (P := Tryz.prog) jkV zer (fun _ => false) (fun _ => false) [con76, con77, con81, con82] []
theorem Y0_ok : EnvOk Tryz.prog Y0 := envJOk zer_ok
/-- What is asked of an instruction whose line is made: small numbers. -/
structure Sm (x : Ins) : Prop where
  len : (kndS x).length ≤ 4
  n : ∀ i, i < 4 → 0 ≤ opI x i ∧ opI x i < 100
  line : (lineB x).length ≤ 1000000
set_option maxHeartbeats 8000000 in
theorem line_pc {x : Ins} (h : Sm x) : PC Tryz.prog 48 [opV x] (.lit (.string (bs (lineB x)))) := by
  obtain ⟨hl4, hn, hll⟩ := h
  have hsu := restW_succ x
  have hR : Lib.join (headW x ++ restW x (kndS x).length) [32] = lineB x := rfl
  have hW : (headW x ++ restW x (kndS x).length).length ≤ 1000000 := by
    have h1 : (headW x).length ≤ 2 := by unfold headW; split <;> simp
    have h2 : (restW x (kndS x).length).length = (kndS x).length := by simp [restW]
    rw [List.length_append]; omega
  have h0 := hn 0 (by omega)
  have h1 := hn 1 (by omega)
  have h2 := hn 2 (by omega)
  have h3 := hn 3 (by omega)
  have hop : ∀ i, opI x i = [x.a, x.b, x.c, x.d].getD i 0 := fun _ => rfl
  have hh : headW x = ul (namL x.code) :: (if x.code = 5 then [ul x.prim] else []) := rfl
  obtain ⟨k, p, a, b, c, d⟩ := x
  simp only at hh hop
  have hS : shpV ⟨k, p, a, b, c, d⟩ = .tup [.agg [.lit (.string (namL k)), .sl false 1 (ints .i64 (kndS ⟨k, p, a, b, c, d⟩)), .lit (.bool (wrtB k)), .sl false 1 (ints .i64 (redS ⟨k, p, a, b, c, d⟩))], .lit (.bool (shpOk ⟨k, p, a, b, c, d⟩))] := rfl
  simp only [opV]
  generalize headW ⟨k, p, a, b, c, d⟩ = hw at *
  generalize hG : restW ⟨k, p, a, b, c, d⟩ = rW at *
  have hr0 : rW 0 = [] := by rw [← hG]; rfl
  generalize opI ⟨k, p, a, b, c, d⟩ = oI at *
  generalize kndS ⟨k, p, a, b, c, d⟩ = L at *
  generalize redS ⟨k, p, a, b, c, d⟩ = M at *
  generalize shpOk ⟨k, p, a, b, c, d⟩ = ok at *
  generalize lineB ⟨k, p, a, b, c, d⟩ = LB at *
  generalize hN : ul (namL k) = N at *
  have hrl : ∀ i, (rW i).length = i := fun i => by rw [← hG]; simp [restW]
  have hnm : namL k = bs N := by rw [← hN, bs_ul]
  obtain ⟨q, rfl⟩ := bs_ex p
  rw [ul_bs] at hh
  have hLl : (ints .i64 L).length = L.length := ints_length _ _
  have hc0 : hw = N :: (if k = 5 then [q] else []) := hh
  cases hk5 : (k == 5) with
  | true =>
    have hq5 : hw = [N, q] := by rw [hc0, if_pos (by simpa using hk5)]
    have hwl : hw.length ≤ 2 := by rw [hq5]; simp
    refine pcR Y0_ok (kp48) Tryz.func48 [.tmp 2] (h := fun KF => ?_)
    unfold Y0
    have htx : txs [N] ++ txs [q] = txs (hw ++ rW 0) := by rw [txs_app1, hr0, hq5, List.append_nil]; rfl
    repeat' (first
     | (with_reducible first | refine nx ?_ | refine t_seq fun K => ?_ | refine t_br (fun hc => ?_) fun hc => ?_ | refine t_bx ?_ | apply And.intro | intro vr)
     | ((with_reducible first | refine ny ?_ | refine t_dwh (h := fun K KL => ?_)); intros; simp only [go_sem, kp48, geff, htx, hS, hnm, hk5, List.cons_append, List.nil_append, yes]))
    all_goals try exact nd
    refine t_loopF (ι := { q : Nat × Nat // q.1 ≤ L.length }) (fun i => [(28, .lit (.int .i64 (i.1.1 : Int))), (5, .arr 2 i.1.2)]) (fun i => [.box 50 [.lit (.int .i64 k), .lit (.string (bs q)), .lit (.int .i64 a), .lit (.int .i64 b), .lit (.int .i64 c), .lit (.int .i64 d)], .box 111 [.lit (.string (bs N)), .sl false 1 (ints .i64 L), .lit (.bool (wrtB k)), .sl false 1 (ints .i64 M)], .arr 9 1 (txs (hw ++ rW i.1.1)) i.1.2 false]) (fun i => L.length - i.1.1) ⟨(0, 0), by simp⟩ ?_ ?_
    · exact lf
    rintro ⟨⟨i, v⟩, hi⟩ K0
    simp only at hi
    rcases Nat.lt_or_ge i L.length with hc | hc
    · rcases (show i = 0 ∨ i = 1 ∨ i = 2 ∨ i = 3 by omega) with rfl | rfl | rfl | rfl
      · have hi0 : ((((0 : Nat) : Int)) : Int) = 0 := rfl
        have g1 : decide ((0 : Int) < (L.length : Int)) = true := decide_eq_true (by omega)
        have hs := hsu 0
        have ho : oI 0 = a := hop 0
        rw [ho] at hs h0
        have hil := itoa_len h0.1 h0.2
        have hrl0 := hrl 0
        cases g2 : (L.getD 0 0 == 0) with
        | true =>
          rw [opW, if_pos (by simpa using g2)] at hs
          have hap : txs (hw ++ rW 0) ++ txs [(114 :: Lib.itoa a)] = txs (hw ++ rW 1) := by rw [txs_app1, List.append_assoc]; exact congrArg (fun z => txs (hw ++ z)) hs
          repeat' (first
           | (with_reducible first | refine nx ?_ | refine t_seq fun K => ?_ | refine t_br (fun hc => ?_) fun hc => ?_ | refine t_bx ?_ | apply And.intro | intro vr)
           | ((with_reducible first | refine ny ?_ | refine t_dwh (h := fun K KL => ?_)); intros; simp only [go_sem, kp48, geff, hi0, g1, g2, hap, r_bs, yes]))
          all_goals try exact nd
          exact ⟨⟨(1, v + 1), by simp only; omega⟩, wf, lf⟩
        | false =>
          rw [opW, if_neg (by simpa using g2)] at hs
          have hap : txs (hw ++ rW 0) ++ txs [(Lib.itoa a)] = txs (hw ++ rW 1) := by rw [txs_app1, List.append_assoc]; exact congrArg (fun z => txs (hw ++ z)) hs
          repeat' (first
           | (with_reducible first | refine nx ?_ | refine t_seq fun K => ?_ | refine t_br (fun hc => ?_) fun hc => ?_ | refine t_bx ?_ | apply And.intro | intro vr)
           | ((with_reducible first | refine ny ?_ | refine t_dwh (h := fun K KL => ?_)); intros; simp only [go_sem, kp48, geff, hi0, g1, g2, hap, r_bs, yes]))
          all_goals try exact nd
          exact ⟨⟨(1, v + 1), by simp only; omega⟩, wf, lf⟩
      · have hi0 : ((((1 : Nat) : Int)) : Int) = 1 := rfl
        have g1 : decide ((1 : Int) < (L.length : Int)) = true := decide_eq_true (by omega)
        have hs := hsu 1
        have ho : oI 1 = b := hop 1
        rw [ho] at hs h1
        have hil := itoa_len h1.1 h1.2
        have hrl1 := hrl 1
        cases g2 : (L.getD 1 0 == 0) with
        | true =>
          rw [opW, if_pos (by simpa using g2)] at hs
          have hap : txs (hw ++ rW 1) ++ txs [(114 :: Lib.itoa b)] = txs (hw ++ rW 2) := by rw [txs_app1, List.append_assoc]; exact congrArg (fun z => txs (hw ++ z)) hs
          repeat' (first
           | (with_reducible first | refine nx ?_ | refine t_seq fun K => ?_ | refine t_br (fun hc => ?_) fun hc => ?_ | refine t_bx ?_ | apply And.intro | intro vr)
           | ((with_reducible first | refine ny ?_ | refine t_dwh (h := fun K KL => ?_)); intros; simp only [go_sem, kp48, geff, hi0, g1, g2, hap, r_bs, yes]))
          all_goals try exact nd
          exact ⟨⟨(2, v + 1), by simp only; omega⟩, wf, lf⟩
        | false =>
          rw [opW, if_neg (by simpa using g2)] at hs
          have hap : txs (hw ++ rW 1) ++ txs [(Lib.itoa b)] = txs (hw ++ rW 2) := by rw [txs_app1, List.append_assoc]; exact congrArg (fun z => txs (hw ++ z)) hs
          repeat' (first
           | (with_reducible first | refine nx ?_ | refine t_seq fun K => ?_ | refine t_br (fun hc => ?_) fun hc => ?_ | refine t_bx ?_ | apply And.intro | intro vr)
           | ((with_reducible first | refine ny ?_ | refine t_dwh (h := fun K KL => ?_)); intros; simp only [go_sem, kp48, geff, hi0, g1, g2, hap, r_bs, yes]))
          all_goals try exact nd
          exact ⟨⟨(2, v + 1), by simp only; omega⟩, wf, lf⟩
      · have hi0 : ((((2 : Nat) : Int)) : Int) = 2 := rfl
        have g1 : decide ((2 : Int) < (L.length : Int)) = true := decide_eq_true (by omega)
        have hs := hsu 2
        have ho : oI 2 = c := hop 2
        rw [ho] at hs h2
        have hil := itoa_len h2.1 h2.2
        have hrl2 := hrl 2
        cases g2 : (L.getD 2 0 == 0) with
        | true =>
          rw [opW, if_pos (by simpa using g2)] at hs
          have hap : txs (hw ++ rW 2) ++ txs [(114 :: Lib.itoa c)] = txs (hw ++ rW 3) := by rw [txs_app1, List.append_assoc]; exact congrArg (fun z => txs (hw ++ z)) hs
          repeat' (first
           | (with_reducible first | refine nx ?_ | refine t_seq fun K => ?_ | refine t_br (fun hc => ?_) fun hc => ?_ | refine t_bx ?_ | apply And.intro | intro vr)
           | ((with_reducible first | refine ny ?_ | refine t_dwh (h := fun K KL => ?_)); intros; simp only [go_sem, kp48, geff, hi0, g1, g2, hap, r_bs, yes]))
          all_goals try exact nd
          exact ⟨⟨(3, v + 1), by simp only; omega⟩, wf, lf⟩
        | false =>
          rw [opW, if_neg (by simpa using g2)] at hs
          have hap : txs (hw ++ rW 2) ++ txs [(Lib.itoa c)] = txs (hw ++ rW 3) := by rw [txs_app1, List.append_assoc]; exact congrArg (fun z => txs (hw ++ z)) hs
          repeat' (first
           | (with_reducible first | refine nx ?_ | refine t_seq fun K => ?_ | refine t_br (fun hc => ?_) fun hc => ?_ | refine t_bx ?_ | apply And.intro | intro vr)
           | ((with_reducible first | refine ny ?_ | refine t_dwh (h := fun K KL => ?_)); intros; simp only [go_sem, kp48, geff, hi0, g1, g2, hap, r_bs, yes]))
          all_goals try exact nd
          exact ⟨⟨(3, v + 1), by simp only; omega⟩, wf, lf⟩
      · have hi0 : ((((3 : Nat) : Int)) : Int) = 3 := rfl
        have g1 : decide ((3 : Int) < (L.length : Int)) = true := decide_eq_true (by omega)
        have hs := hsu 3
        have ho : oI 3 = d := hop 3
        rw [ho] at hs h3
        have hil := itoa_len h3.1 h3.2
        have hrl3 := hrl 3
        cases g2 : (L.getD 3 0 == 0) with
        | true =>
          rw [opW, if_pos (by simpa using g2)] at hs
          have hap : txs (hw ++ rW 3) ++ txs [(114 :: Lib.itoa d)] = txs (hw ++ rW 4) := by rw [txs_app1, List.append_assoc]; exact congrArg (fun z => txs (hw ++ z)) hs
          repeat' (first
           | (with_reducible first | refine nx ?_ | refine t_seq fun K => ?_ | refine t_br (fun hc => ?_) fun hc => ?_ | refine t_bx ?_ | apply And.intro | intro vr)
           | ((with_reducible first | refine ny ?_ | refine t_dwh (h := fun K KL => ?_)); intros; simp only [go_sem, kp48, geff, hi0, g1, g2, hap, r_bs, yes]))
          all_goals try exact nd
          exact ⟨⟨(4, v + 1), by simp only; omega⟩, wf, lf⟩
        | false =>
          rw [opW, if_neg (by simpa using g2)] at hs
          have hap : txs (hw ++ rW 3) ++ txs [(Lib.itoa d)] = txs (hw ++ rW 4) := by rw [txs_app1, List.append_assoc]; exact congrArg (fun z => txs (hw ++ z)) hs
          repeat' (first
           | (with_reducible first | refine nx ?_ | refine t_seq fun K => ?_ | refine t_br (fun hc => ?_) fun hc => ?_ | refine t_bx ?_ | apply And.intro | intro vr)
           | ((with_reducible first | refine ny ?_ | refine t_dwh (h := fun K KL => ?_)); intros; simp only [go_sem, kp48, geff, hi0, g1, g2, hap, r_bs, yes]))
          all_goals try exact nd
          exact ⟨⟨(4, v + 1), by simp only; omega⟩, wf, lf⟩
    · have hiL : i = L.length := by omega
      subst hiL
      have g1 : decide ((L.length : Int) < (L.length : Int)) = false := decide_eq_false (by omega)
      subst hR
      repeat' (first
       | (with_reducible first | refine nx ?_ | refine t_seq fun K => ?_ | refine t_br (fun hc => ?_) fun hc => ?_ | refine t_bx ?_ | apply And.intro | intro vr)
       | ((with_reducible first | refine ny ?_ | refine t_dwh (h := fun K KL => ?_)); intros; simp only [go_sem, kp48, geff, g1]))
      all_goals try exact nd
      all_goals (refine nl ?_; simp only [go_sem])
      exact LeA.refl _
  | false =>
    have hq5 : hw = [N] := by rw [hc0, if_neg (by simpa using hk5)]
    have hwl : hw.length ≤ 2 := by rw [hq5]; simp
    refine pcR Y0_ok (kp48) Tryz.func48 [.tmp 2] (h := fun KF => ?_)
    unfold Y0
    repeat' (first
     | (with_reducible first | refine nx ?_ | refine t_seq fun K => ?_ | refine t_br (fun hc => ?_) fun hc => ?_ | refine t_bx ?_ | apply And.intro | intro vr)
     | ((with_reducible first | refine ny ?_ | refine t_dwh (h := fun K KL => ?_)); intros; simp only [go_sem, kp48, geff, hS, hnm, hk5, List.cons_append, List.nil_append, yes]))
    all_goals try exact nd
    refine t_loopF (ι := Option { q : Nat × Nat // q.1 ≤ L.length }) (fun o => match o with | none => [(28, .lit (.int .i64 0)), (5, .sl true 1 (txs [N]))] | some i => [(28, .lit (.int .i64 (i.1.1 : Int))), (5, .arr 2 i.1.2)]) (fun o => match o with | none => [.box 50 [.lit (.int .i64 k), .lit (.string (bs q)), .lit (.int .i64 a), .lit (.int .i64 b), .lit (.int .i64 c), .lit (.int .i64 d)], .box 111 [.lit (.string (bs N)), .sl false 1 (ints .i64 L), .lit (.bool (wrtB k)), .sl false 1 (ints .i64 M)]] | some i => [.box 50 [.lit (.int .i64 k), .lit (.string (bs q)), .lit (.int .i64 a), .lit (.int .i64 b), .lit (.int .i64 c), .lit (.int .i64 d)], .box 111 [.lit (.string (bs N)), .sl false 1 (ints .i64 L), .lit (.bool (wrtB k)), .sl false 1 (ints .i64 M)], .arr 9 1 (txs (hw ++ rW i.1.1)) i.1.2 false]) (fun o => match o with | none => L.length + 1 | some i => L.length - i.1.1) none ?_ ?_
    · simp only [updL_nil, updL_cons, delF_top, delF_upd, Nat.reduceEqDiff, reduceIte]
      refine Le.frameS (by first | rfl | (simp only [go_sem]; try rfl)) ?_
      repeat' (first | exact leF_top _ | exact (fun _ => LeR.refl _) | (with_reducible refine leF_sl ?_ ?_) | (refine leF_upd ?_ ?_))
      all_goals (first | exact LeR.top _ | exact LeR.refl _ | (refine LeR.of_eq ?_; (try simp only [go_sem]); try rfl) | ((try simp only [go_sem]); try rfl))
    rintro (_ | ⟨⟨i, v⟩, hi⟩) K0
    · simp only [updL_nil, updL_cons] at K0 ⊢
      rcases Nat.lt_or_ge 0 L.length with hc | hc
      · have hi0 : ((((0 : Nat) : Int)) : Int) = 0 := rfl
        have g1 : decide ((0 : Int) < (L.length : Int)) = true := decide_eq_true (by omega)
        have hs := hsu 0
        have ho : oI 0 = a := hop 0
        rw [ho] at hs h0
        have hil := itoa_len h0.1 h0.2
        have hrl0 := hrl 0
        cases g2 : (L.getD 0 0 == 0) with
        | true =>
          rw [opW, if_pos (by simpa using g2)] at hs
          have hap : txs [N] ++ txs [(114 :: Lib.itoa a)] = txs (hw ++ rW 1) := by rw [txs_app1]; rw [hr0] at hs; rw [hq5, ← hs]; rfl
          repeat' (first
           | (with_reducible first | refine nx ?_ | refine t_seq fun K => ?_ | refine t_br (fun hc => ?_) fun hc => ?_ | refine t_bx ?_ | apply And.intro | intro vr)
           | ((with_reducible first | refine ny ?_ | refine t_dwh (h := fun K KL => ?_)); intros; simp only [go_sem, kp48, geff, hi0, g1, g2, hap, r_bs, yes]))
          all_goals try exact nd
          exact ⟨(some ⟨(1, 0), by simp only; omega⟩), wf, lf⟩
        | false =>
          rw [opW, if_neg (by simpa using g2)] at hs
          have hap : txs [N] ++ txs [(Lib.itoa a)] = txs (hw ++ rW 1) := by rw [txs_app1]; rw [hr0] at hs; rw [hq5, ← hs]; rfl
          repeat' (first
           | (with_reducible first | refine nx ?_ | refine t_seq fun K => ?_ | refine t_br (fun hc => ?_) fun hc => ?_ | refine t_bx ?_ | apply And.intro | intro vr)
           | ((with_reducible first | refine ny ?_ | refine t_dwh (h := fun K KL => ?_)); intros; simp only [go_sem, kp48, geff, hi0, g1, g2, hap, r_bs, yes]))
          all_goals try exact nd
          exact ⟨(some ⟨(1, 0), by simp only; omega⟩), wf, lf⟩
      · have g1 : decide ((0 : Int) < (L.length : Int)) = false := decide_eq_false (by omega)
        have h00 : L.length = 0 := by omega
        rw [h00, hr0, hq5, List.append_nil] at hW hR
        subst hR
        repeat' (first
         | (with_reducible first | refine nx ?_ | refine t_seq fun K => ?_ | refine t_br (fun hc => ?_) fun hc => ?_ | refine t_bx ?_ | apply And.intro | intro vr)
         | ((with_reducible first | refine ny ?_ | refine t_dwh (h := fun K KL => ?_)); intros; simp only [go_sem, kp48, geff, g1]))
        all_goals try exact nd
        all_goals (refine nl ?_; simp only [go_sem])
        exact LeA.refl _
    simp only at hi
    rcases Nat.lt_or_ge i L.length with hc | hc
    · rcases (show i = 0 ∨ i = 1 ∨ i = 2 ∨ i = 3 by omega) with rfl | rfl | rfl | rfl
      · have hi0 : ((((0 : Nat) : Int)) : Int) = 0 := rfl
        have g1 : decide ((0 : Int) < (L.length : Int)) = true := decide_eq_true (by omega)
        have hs := hsu 0
        have ho : oI 0 = a := hop 0
        rw [ho] at hs h0
        have hil := itoa_len h0.1 h0.2
        have hrl0 := hrl 0
        cases g2 : (L.getD 0 0 == 0) with
        | true =>
          rw [opW, if_pos (by simpa using g2)] at hs
          have hap : txs (hw ++ rW 0) ++ txs [(114 :: Lib.itoa a)] = txs (hw ++ rW 1) := by rw [txs_app1, List.append_assoc]; exact congrArg (fun z => txs (hw ++ z)) hs
          repeat' (first
           | (with_reducible first | refine nx ?_ | refine t_seq fun K => ?_ | refine t_br (fun hc => ?_) fun hc => ?_ | refine t_bx ?_ | apply And.intro | intro vr)
           | ((with_reducible first | refine ny ?_ | refine t_dwh (h := fun K KL => ?_)); intros; simp only [go_sem, kp48, geff, hi0, g1, g2, hap, r_bs, yes]))
          all_goals try exact nd
          exact ⟨(some ⟨(1, v + 1), by simp only; omega⟩), wf, lf⟩
        | false =>
          rw [opW, if_neg (by simpa using g2)] at hs
          have hap : txs (hw ++ rW 0) ++ txs [(Lib.itoa a)] = txs (hw ++ rW 1) := by rw [txs_app1, List.append_assoc]; exact congrArg (fun z => txs (hw ++ z)) hs
          repeat' (first
           | (with_reducible first | refine nx ?_ | refine t_seq fun K => ?_ | refine t_br (fun hc => ?_) fun hc => ?_ | refine t_bx ?_ | apply And.intro | intro vr)
           | ((with_reducible first | refine ny ?_ | refine t_dwh (h := fun K KL => ?_)); intros; simp only [go_sem, kp48, geff, hi0, g1, g2, hap, r_bs, yes]))
          all_goals try exact nd
          exact ⟨(some ⟨(1, v + 1), by simp only; omega⟩), wf, lf⟩
      · have hi0 : ((((1 : Nat) : Int)) : Int) = 1 := rfl
        have g1 : decide ((1 : Int) < (L.length : Int)) = true := decide_eq_true (by omega)
        have hs := hsu 1
        have ho : oI 1 = b := hop 1
        rw [ho] at hs h1
        have hil := itoa_len h1.1 h1.2
        have hrl1 := hrl 1
        cases g2 : (L.getD 1 0 == 0) with
        | true =>
          rw [opW, if_pos (by simpa using g2)] at hs
          have hap : txs (hw ++ rW 1) ++ txs [(114 :: Lib.itoa b)] = txs (hw ++ rW 2) := by rw [txs_app1, List.append_assoc]; exact congrArg (fun z => txs (hw ++ z)) hs
          repeat' (first
           | (with_reducible first | refine nx ?_ | refine t_seq fun K => ?_ | refine t_br (fun hc => ?_) fun hc => ?_ | refine t_bx ?_ | apply And.intro | intro vr)
           | ((with_reducible first | refine ny ?_ | refine t_dwh (h := fun K KL => ?_)); intros; simp only [go_sem, kp48, geff, hi0, g1, g2, hap, r_bs, yes]))
          all_goals try exact nd
          exact ⟨(some ⟨(2, v + 1), by simp only; omega⟩), wf, lf⟩
        | false =>
          rw [opW, if_neg (by simpa using g2)] at hs
          have hap : txs (hw ++ rW 1) ++ txs [(Lib.itoa b)] = txs (hw ++ rW 2) := by rw [txs_app1, List.append_assoc]; exact congrArg (fun z => txs (hw ++ z)) hs
          repeat' (first
           | (with_reducible first | refine nx ?_ | refine t_seq fun K => ?_ | refine t_br (fun hc => ?_) fun hc => ?_ | refine t_bx ?_ | apply And.intro | intro vr)
           | ((with_reducible first | refine ny ?_ | refine t_dwh (h := fun K KL => ?_)); intros; simp only [go_sem, kp48, geff, hi0, g1, g2, hap, r_bs, yes]))
          all_goals try exact nd
          exact ⟨(some ⟨(2, v + 1), by simp only; omega⟩), wf, lf⟩
      · have hi0 : ((((2 : Nat) : Int)) : Int) = 2 := rfl
        have g1 : decide ((2 : Int) < (L.length : Int)) = true := decide_eq_true (by omega)
        have hs := hsu 2
        have ho : oI 2 = c := hop 2
        rw [ho] at hs h2
        have hil := itoa_len h2.1 h2.2
        have hrl2 := hrl 2
        cases g2 : (L.getD 2 0 == 0) with
        | true =>
          rw [opW, if_pos (by simpa using g2)] at hs
          have hap : txs (hw ++ rW 2) ++ txs [(114 :: Lib.itoa c)] = txs (hw ++ rW 3) := by rw [txs_app1, List.append_assoc]; exact congrArg (fun z => txs (hw ++ z)) hs
          repeat' (first
           | (with_reducible first | refine nx ?_ | refine t_seq fun K => ?_ | refine t_br (fun hc => ?_) fun hc => ?_ | refine t_bx ?_ | apply And.intro | intro vr)
           | ((with_reducible first | refine ny ?_ | refine t_dwh (h := fun K KL => ?_)); intros; simp only [go_sem, kp48, geff, hi0, g1, g2, hap, r_bs, yes]))
          all_goals try exact nd
          exact ⟨(some ⟨(3, v + 1), by simp only; omega⟩), wf, lf⟩
        | false =>
          rw [opW, if_neg (by simpa using g2)] at hs
          have hap : txs (hw ++ rW 2) ++ txs [(Lib.itoa c)] = txs (hw ++ rW 3) := by rw [txs_app1, List.append_assoc]; exact congrArg (fun z => txs (hw ++ z)) hs
          repeat' (first
           | (with_reducible first | refine nx ?_ | refine t_seq fun K => ?_ | refine t_br (fun hc => ?_) fun hc => ?_ | refine t_bx ?_ | apply And.intro | intro vr)
           | ((with_reducible first | refine ny ?_ | refine t_dwh (h := fun K KL => ?_)); intros; simp only [go_sem, kp48, geff, hi0, g1, g2, hap, r_bs, yes]))
          all_goals try exact nd
          exact ⟨(some ⟨(3, v + 1), by simp only; omega⟩), wf, lf⟩
      · have hi0 : ((((3 : Nat) : Int)) : Int) = 3 := rfl
        have g1 : decide ((3 : Int) < (L.length : Int)) = true := decide_eq_true (by omega)
        have hs := hsu 3
        have ho : oI 3 = d := hop 3
        rw [ho] at hs h3
        have hil := itoa_len h3.1 h3.2
        have hrl3 := hrl 3
        cases g2 : (L.getD 3 0 == 0) with
        | true =>
          rw [opW, if_pos (by simpa using g2)] at hs
          have hap : txs (hw ++ rW 3) ++ txs [(114 :: Lib.itoa d)] = txs (hw ++ rW 4) := by rw [txs_app1, List.append_assoc]; exact congrArg (fun z => txs (hw ++ z)) hs
          repeat' (first
           | (with_reducible first | refine nx ?_ | refine t_seq fun K => ?_ | refine t_br (fun hc => ?_) fun hc => ?_ | refine t_bx ?_ | apply And.intro | intro vr)
           | ((with_reducible first | refine ny ?_ | refine t_dwh (h := fun K KL => ?_)); intros; simp only [go_sem, kp48, geff, hi0, g1, g2, hap, r_bs, yes]))
          all_goals try exact nd
          exact ⟨(some ⟨(4, v + 1), by simp only; omega⟩), wf, lf⟩
        | false =>
          rw [opW, if_neg (by simpa using g2)] at hs
          have hap : txs (hw ++ rW 3) ++ txs [(Lib.itoa d)] = txs (hw ++ rW 4) := by rw [txs_app1, List.append_assoc]; exact congrArg (fun z => txs (hw ++ z)) hs
          repeat' (first
           | (with_reducible first | refine nx ?_ | refine t_seq fun K => ?_ | refine t_br (fun hc => ?_) fun hc => ?_ | refine t_bx ?_ | apply And.intro | intro vr)
           | ((with_reducible first | refine ny ?_ | refine t_dwh (h := fun K KL => ?_)); intros; simp only [go_sem, kp48, geff, hi0, g1, g2, hap, r_bs, yes]))
          all_goals try exact nd
          exact ⟨(some ⟨(4, v + 1), by simp only; omega⟩), wf, lf⟩
    · have hiL : i = L.length := by omega
      subst hiL
      have g1 : decide ((L.length : Int) < (L.length : Int)) = false := decide_eq_false (by omega)
      subst hR
      repeat' (first
       | (with_reducible first | refine nx ?_ | refine t_seq fun K => ?_ | refine t_br (fun hc => ?_) fun hc => ?_ | refine t_bx ?_ | apply And.intro | intro vr)
       | ((with_reducible first | refine ny ?_ | refine t_dwh (h := fun K KL => ?_)); intros; simp only [go_sem, kp48, geff, g1]))
      all_goals try exact nd
      all_goals (refine nl ?_; simp only [go_sem])
      exact LeA.refl _
end Go.Proofs.YtohiagaclfaolaaGreatDoor.Tx

/- A line read: what it gives for the line of an instruction that is right (small numbers, no name). -/
namespace Go.Proofs.YtohiagaclfaolaaGreatDoor.Tx
open Go.Proofs.YtohiagaclfaolaaGreatDoor
open Go Go.Fw Bm
set_option maxRecDepth 20000
/-- The forms' cells. -/
def fCs : List AV := formsV.cells
theorem formsV_fCs : formsV = .agg fCs := rfl
theorem fCs_len : fCs.length = 64 := rfl
theorem fCs_scal : fCs.all scal0 = false := rfl
theorem fCs_solid : (AV.agg fCs).solid = true := rfl
theorem fCs_cells : (AV.agg fCs).cells = fCs := rfl
noncomputable def fcA (i : Nat) : AV := fCs.getD (i * 4 + 1) .top
noncomputable def fcC (i : Nat) : AV := fCs.getD (i * 4 + 3) .top
def fcB (i : Nat) : Bool := match fCs.getD (i * 4 + 2) .top with | .lit (.bool b) => b | _ => false
def nmB (i : Nat) : ByteArray := match fCs.getD (i * 4) .top with | .lit (.string s) => s | _ => ⟨#[]⟩
theorem ex16 {p : Nat → Prop} (h : p 0 ∧ p 1 ∧ p 2 ∧ p 3 ∧ p 4 ∧ p 5 ∧ p 6 ∧ p 7 ∧ p 8 ∧ p 9 ∧ p 10 ∧ p 11 ∧ p 12 ∧ p 13 ∧ p 14 ∧ p 15) : ∀ i, i < 16 → p i := by
  intro i hi
  obtain ⟨h0, h1, h2, h3, h4, h5, h6, h7, h8, h9, h10, h11, h12, h13, h14, h15⟩ := h
  rcases (show i = 0 ∨ i = 1 ∨ i = 2 ∨ i = 3 ∨ i = 4 ∨ i = 5 ∨ i = 6 ∨ i = 7 ∨ i = 8 ∨ i = 9 ∨ i = 10 ∨ i = 11 ∨ i = 12 ∨ i = 13 ∨ i = 14 ∨ i = 15 by omega) with rfl | rfl | rfl | rfl | rfl | rfl | rfl | rfl | rfl | rfl | rfl | rfl | rfl | rfl | rfl | rfl <;> assumption
theorem forms_ok : FormsC fCs nmB fcA fcC fcB where
  hA := ex16 ⟨.inl ⟨_, rfl⟩, .inl ⟨_, rfl⟩, .inl ⟨_, rfl⟩, .inl ⟨_, rfl⟩, .inl ⟨_, rfl⟩, .inl ⟨_, rfl⟩, .inl ⟨_, rfl⟩, .inl ⟨_, rfl⟩, .inl ⟨_, rfl⟩, .inl ⟨_, rfl⟩, .inl ⟨_, rfl⟩, .inl ⟨_, rfl⟩, .inr rfl, .inr rfl, .inl ⟨_, rfl⟩, .inr rfl⟩
  hC := ex16 ⟨.inl ⟨_, rfl⟩, .inr rfl, .inl ⟨_, rfl⟩, .inl ⟨_, rfl⟩, .inl ⟨_, rfl⟩, .inr rfl, .inl ⟨_, rfl⟩, .inl ⟨_, rfl⟩, .inr rfl, .inl ⟨_, rfl⟩, .inl ⟨_, rfl⟩, .inl ⟨_, rfl⟩, .inr rfl, .inr rfl, .inl ⟨_, rfl⟩, .inr rfl⟩
  len := rfl
  at_ := ex16 ⟨rfl, rfl, rfl, rfl, rfl, rfl, rfl, rfl, rfl, rfl, rfl, rfl, rfl, rfl, rfl, rfl⟩
  sol := ex16 ⟨rfl, rfl, rfl, rfl, rfl, rfl, rfl, rfl, rfl, rfl, rfl, rfl, rfl, rfl, rfl, rfl⟩
  cel := ex16 ⟨rfl, rfl, rfl, rfl, rfl, rfl, rfl, rfl, rfl, rfl, rfl, rfl, rfl, rfl, rfl, rfl⟩
theorem forms_pcC : PC Tryz.prog 100 [] (.agg fCs) := by rw [← formsV_fCs]; exact forms_pc
noncomputable def con22C : PCon Tryz.prog where
  f := 100
  c := fun
    | [] => some (True, .agg fCs)
    | _ => none
  ok := by
    intro args p r hc hp
    split at hc
    · cases hc; exact forms_pcC
    · cases hc
  fk := fk100
theorem con22C_f : con22C.f = 100 := rfl
theorem con22C_c : con22C.c [] = some (True, .agg fCs) := rfl
theorem setRange_zero : ∀ {ys xs : List AV} (pre : List AV), xs.length = ys.length → setRange (pre ++ xs) pre.length ys = pre ++ ys
  | [], [], _, _ => rfl
  | y :: ys, x :: xs, pre, h => by
    simp only [setRange]
    have e1 : (pre ++ x :: xs).set pre.length y = (pre ++ [y]) ++ xs := by simp [List.set_append]
    have e2 : pre.length + 1 = (pre ++ [y]).length := by simp
    rw [e1, e2, setRange_zero (pre ++ [y]) (by simpa using h), List.append_assoc]; rfl
theorem setRange_f {xs : List AV} (h : xs.length = 64) : setRange xs 0 fCs = fCs := by
  have := setRange_zero (ys := fCs) (xs := xs) [] (by rw [h, fCs_len])
  simpa using this
noncomputable def zC : List AV := (zer 136).cells
theorem z53 : zer 136 = .agg zC := rfl
theorem zC_len : zC.length = 64 := rfl
theorem zC_set : setRange zC 0 fCs = fCs := setRange_f rfl
attribute [go_sem] con22C_f con22C_c fCs_len fCs_scal fCs_solid fCs_cells zC_len zC_set
noncomputable def ecn108 : ECon Tryz.prog where
  f := 108
  c := fun args σ k => match args, σ with
    | [.bsl 2 16, .fn (.func 109) [] [.ref 1 0]], [b0, .box 117 [.sl fl 1 l], .box 136 cs] => match l with
      | .lit (.string w) :: l' => ∃ ws, l' = txs ws ∧ cs = fCs ∧ k (.lit (.int .i64 (idxF nmB (ul w) 16 0))) [b0, .box 117 [.sl fl 1 l], .box 136 cs]
      | _ => False
    | _, _ => False
  ok := by
    intro args σ k h
    split at h
    · split at h
      · rename_i w l'
        obtain ⟨ws, rfl, rfl, h3⟩ := h
        obtain ⟨w, rfl⟩ := bs_ex w
        rw [ul_bs] at h3
        exact idxf_ec (w := w) (ws := ws) forms_ok h3
      · exact h.elim
    · exact h.elim
  fk := fk108
theorem ecn108_f : ecn108.f = 108 := rfl
theorem ecn108_c {fl : Bool} {b0 : AObj} {w : List UInt8} {ws : List (List UInt8)} {k : AV → List AObj → Prop} : ecn108.c [.bsl 2 16, .fn (.func 109) [] [.ref 1 0]] [b0, .box 117 [.sl fl 1 (txs (w :: ws))], .box 136 fCs] k =
    k (.lit (.int .i64 (idxF nmB w 16 0))) [b0, .box 117 [.sl fl 1 (txs (w :: ws))], .box 136 fCs] := by
  show (∃ us, txs ws = txs us ∧ fCs = fCs ∧ k (.lit (.int .i64 (idxF nmB (ul (bs w)) 16 0))) [b0, .box 117 [.sl fl 1 (txs (w :: ws))], .box 136 fCs]) = _
  rw [ul_bs]
  apply propext
  exact ⟨fun ⟨_, _, _, h⟩ => h, fun h => ⟨ws, rfl, rfl, h⟩⟩
attribute [go_sem] ecn108_f ecn108_c
noncomputable def con48 : PCon Tryz.prog where
  f := 48
  c := fun
    | [x] => match opOf x with
      | some x => some (Sm x, .lit (.string (bs (lineB x))))
      | none => none
    | _ => none
  ok := by
    intro args p r hc hp
    split at hc
    · split at hc
      · rename_i x hx
        cases hc
        rw [opOf_inv hx]
        exact line_pc hp
      · cases hc
    · cases hc
  fk := fk48
theorem con48_f : con48.f = 48 := rfl
theorem con48_c {x : AV} : con48.c [x] = match opOf x with
      | some x => some (Sm x, .lit (.string (bs (lineB x))))
      | none => none := rfl
attribute [go_sem] con48_f con48_c
theorem refs4 {a b c d e f g h : Nat} : refsOk 0 [(0, .ref a b), (1, .ref c d), (2, .ref e f), (3, .ref g h)] = true := rfl
theorem ie1 {α : Type} {x : α} {l : List α} : (x :: l).isEmpty = false := rfl
attribute [go_sem] refs4 ie1
noncomputable def Y7 : Env := envJ (P := Tryz.prog) jkT zer (fun d => d == 46) (fun _ => false) [con107, con22C, con110, con45, con48] [ecn108]
theorem Y7_ok : EnvOk Tryz.prog Y7 := envJOk zer_ok
/-- What is asked of an instruction whose line is read. -/
structure Rd (x : Ins) : Prop where
  sm : Sm x
  c1 : 1 ≤ x.code
  c5 : x.code ≠ 5
  prim : x.prim = ByteArray.empty
  split : splitW 32 (lineB x) = wordsB x
  idx : idxF nmB (ul (namL x.code)) 16 0 = x.code
  right : rightS x 200 = true
  zero : ∀ i, (kndS x).length ≤ i → opI x i = 0
  num : ∀ i, i < (kndS x).length → Lib.atoi (trimP [114] (opW ((kndS x).getD i 0) (opI x i))) = some (opI x i)
  numl : ∀ i, i < (kndS x).length → (trimP [114] (opW ((kndS x).getD i 0) (opI x i))).length ≤ 18
def oc (oI : Nat → Int) (i j : Nat) : Int := if j < i then oI j else 0
set_option maxHeartbeats 8000000 in
theorem read_pc {x : Ins} (h : Rd x) : PC Tryz.prog 89 [.lit (.string (bs (lineB x)))] (opV x) := by
  obtain ⟨hsm, hc1, hc5, hp, hsp, hix, hri, hze, hnu, hnl⟩ := h
  have hl4 := hsm.len
  have hll := hsm.line
  have hw : wordsB x = ul (namL x.code) :: restW x (kndS x).length := by simp [wordsB, headW, hc5]
  rw [hw] at hsp
  have hop : ∀ i, opI x i = [x.a, x.b, x.c, x.d].getD i 0 := fun _ => rfl
  have hrl : (restW x (kndS x).length).length = (kndS x).length := by simp [restW]
  have hrg : ∀ i, i < (kndS x).length → (restW x (kndS x).length).getD i [] = opW ((kndS x).getD i 0) (opI x i) := fun i hi => by
    simp [restW, List.getD_eq_getElem?_getD, hi]
  obtain ⟨k, p, a, b, c, d⟩ := x
  simp only at hc1 hc5 hp hop hix hsp
  subst hp
  simp only [opV]
  have hLB : lineB ⟨k, ByteArray.empty, a, b, c, d⟩ = lineB ⟨k, ByteArray.empty, a, b, c, d⟩ := rfl
  generalize hLBx : lineB ⟨k, ByteArray.empty, a, b, c, d⟩ = LB at hsp hll
  generalize restW ⟨k, ByteArray.empty, a, b, c, d⟩ (kndS ⟨k, ByteArray.empty, a, b, c, d⟩).length = R at *
  generalize opI ⟨k, ByteArray.empty, a, b, c, d⟩ = oI at *
  generalize kndS ⟨k, ByteArray.empty, a, b, c, d⟩ = L at *
  generalize ul (namL k) = N at *
  have hk5 : (k == 5) = false := by simpa using hc5
  have g1 : decide (k < 1) = false := decide_eq_false (by omega)
  have g4 : decide ((R.length : Int) > 4) = false := decide_eq_false (by omega)
  have hdr : List.drop 1 (txs (N :: R)) = txs R := rfl
  have htk : List.take (R.length + 1) (txs (N :: R)) = txs (N :: R) := by rw [← List.length_cons (a := N), ← txs_length]; exact take_all _
  refine pcR Y7_ok (kp89) Tryz.func89 [.cell 2 50] (h := fun KF => ?_)
  unfold Y7
  repeat' (first
   | (with_reducible first | refine nx ?_ | refine t_seq fun K => ?_ | refine t_br (fun hc => ?_) fun hc => ?_ | refine t_bx ?_ | apply And.intro | intro vr)
   | ((with_reducible first | refine ny ?_ | refine t_dwh (h := fun K KL => ?_)); intros; simp only [go_sem, kp89, geff, z53, hsp, hix, hk5, g1, g4, hdr, htk, txs_length, List.length_cons, yes]))
  all_goals try exact nd
  refine t_loopF (ι := { i : Nat // i ≤ L.length }) (fun i => [(51, .lit (.int .i64 i.1))]) (fun i => [.box 50 [.lit (.int .i64 0), .lit (.string (bs [])), .lit (.int .i64 0), .lit (.int .i64 0), .lit (.int .i64 0), .lit (.int .i64 0)], .box 117 [.sl false 1 (txs (N :: R))], .box 136 fCs, .box 50 [.lit (.int .i64 k), .lit (.string (bs [])), .lit (.int .i64 (oc oI i.1 0)), .lit (.int .i64 (oc oI i.1 1)), .lit (.int .i64 (oc oI i.1 2)), .lit (.int .i64 (oc oI i.1 3))], .box 149 [.ref 3 2, .ref 3 3, .ref 3 4, .ref 3 5]]) (fun i => L.length - i.1) ⟨0, by omega⟩ ?_ ?_
  · exact lf
  rintro ⟨i, hi⟩ K0
  have hdx : ∀ i, List.getD (txs R) i (.lit (.string (bs []))) = .lit (.string (bs (R.getD i []))) := fun i => txs_getJ R i
  rcases Nat.lt_or_ge i L.length with hc | hc
  · have hn1 := hnu i hc
    have hn2 := hnl i hc
    have hgd := hrg i hc
    rw [← hgd] at hn1 hn2
    rcases (show i = 0 ∨ i = 1 ∨ i = 2 ∨ i = 3 by omega) with rfl | rfl | rfl | rfl
    · have hi0 : ((((0 : Nat) : Int)) : Int) = 0 := rfl
      have g2 : decide ((0 : Int) < (R.length : Int)) = true := decide_eq_true (by omega)
      have g3 : (0 : Int) < (R.length : Int) := by omega
      repeat' (first
       | (with_reducible first | refine nx ?_ | refine t_seq fun K => ?_ | refine t_br (fun hc => ?_) fun hc => ?_ | refine t_bx ?_ | apply And.intro | intro vr)
       | ((with_reducible first | refine ny ?_ | refine t_dwh (h := fun K KL => ?_)); intros; simp only [go_sem, kp89, geff, hi0, g2, hn1, yes]))
      all_goals try exact nd
      exact ⟨⟨1, by omega⟩, wf, lf⟩
    · have hi0 : ((((1 : Nat) : Int)) : Int) = 1 := rfl
      have g2 : decide ((1 : Int) < (R.length : Int)) = true := decide_eq_true (by omega)
      have g3 : (1 : Int) < (R.length : Int) := by omega
      repeat' (first
       | (with_reducible first | refine nx ?_ | refine t_seq fun K => ?_ | refine t_br (fun hc => ?_) fun hc => ?_ | refine t_bx ?_ | apply And.intro | intro vr)
       | ((with_reducible first | refine ny ?_ | refine t_dwh (h := fun K KL => ?_)); intros; simp only [go_sem, kp89, geff, hi0, g2, hn1, yes]))
      all_goals try exact nd
      exact ⟨⟨2, by omega⟩, wf, lf⟩
    · have hi0 : ((((2 : Nat) : Int)) : Int) = 2 := rfl
      have g2 : decide ((2 : Int) < (R.length : Int)) = true := decide_eq_true (by omega)
      have g3 : (2 : Int) < (R.length : Int) := by omega
      repeat' (first
       | (with_reducible first | refine nx ?_ | refine t_seq fun K => ?_ | refine t_br (fun hc => ?_) fun hc => ?_ | refine t_bx ?_ | apply And.intro | intro vr)
       | ((with_reducible first | refine ny ?_ | refine t_dwh (h := fun K KL => ?_)); intros; simp only [go_sem, kp89, geff, hi0, g2, hn1, yes]))
      all_goals try exact nd
      exact ⟨⟨3, by omega⟩, wf, lf⟩
    · have hi0 : ((((3 : Nat) : Int)) : Int) = 3 := rfl
      have g2 : decide ((3 : Int) < (R.length : Int)) = true := decide_eq_true (by omega)
      have g3 : (3 : Int) < (R.length : Int) := by omega
      repeat' (first
       | (with_reducible first | refine nx ?_ | refine t_seq fun K => ?_ | refine t_br (fun hc => ?_) fun hc => ?_ | refine t_bx ?_ | apply And.intro | intro vr)
       | ((with_reducible first | refine ny ?_ | refine t_dwh (h := fun K KL => ?_)); intros; simp only [go_sem, kp89, geff, hi0, g2, hn1, yes]))
      all_goals try exact nd
      exact ⟨⟨4, by omega⟩, wf, lf⟩
  · have hiL : i = L.length := by omega
    subst hiL
    have ho : ∀ j, j < 4 → oc oI L.length j = oI j := fun j hj => by
      unfold oc
      split
      · rfl
      · exact (hze j (by omega)).symm
    have o0 : oc oI L.length 0 = a := (ho 0 (by omega)).trans (hop 0)
    have o1 : oc oI L.length 1 = b := (ho 1 (by omega)).trans (hop 1)
    have o2 : oc oI L.length 2 = c := (ho 2 (by omega)).trans (hop 2)
    have o3 : oc oI L.length 3 = d := (ho 3 (by omega)).trans (hop 3)
    have g2 : decide ((L.length : Int) < (R.length : Int)) = false := decide_eq_false (by omega)
    have g5 : (LB == LB) = true := by simp
    have hri2 : rightS ⟨k, bs [], a, b, c, d⟩ 200 = true := hri
    have hLB2 : lineB ⟨k, bs [], a, b, c, d⟩ = LB := hLBx
    have hsm2 : Sm ⟨k, bs [], a, b, c, d⟩ := hsm
    repeat' (first
     | (with_reducible first | refine nx ?_ | refine t_seq fun K => ?_ | refine t_br (fun hc => ?_) fun hc => ?_ | refine t_bx ?_ | apply And.intro | intro vr)
     | ((with_reducible first | refine ny ?_ | refine t_dwh (h := fun K KL => ?_)); intros; simp only [go_sem, kp89, geff, g2, o0, o1, o2, o3, hri2, hLB2, g5, yes]))
    all_goals try exact nd
    all_goals (refine nl ?_; simp only [go_sem])
    exact LeA.refl _
end Go.Proofs.YtohiagaclfaolaaGreatDoor.Tx

/- A line parsed. -/
namespace Go.Proofs.YtohiagaclfaolaaGreatDoor.Tx
open Go.Proofs.YtohiagaclfaolaaGreatDoor
open Go Go.Fw Bm
set_option maxRecDepth 20000
theorem rc_lit {C : Nat → Nat → Option Value} {a v : Value} (h : RC C (.lit a) v) : v = a := by
  generalize hz : AV.lit a = z at h
  cases h <;> first | (cases hz; rfl) | cases hz
theorem rc_op {C : Nat → Nat → Option Value} {x : Ins} {v : Value} (h : RC C (opV x) v) : v = .agg #[.int .i64 x.code, .string x.prim, .int .i64 x.a, .int .i64 x.b, .int .i64 x.c, .int .i64 x.d] := by
  obtain ⟨k, p, a, b, c, d⟩ := x
  simp only [opV] at h
  generalize hz : AV.agg [.lit (.int .i64 k), .lit (.string p), .lit (.int .i64 a), .lit (.int .i64 b), .lit (.int .i64 c), .lit (.int .i64 d)] = z at h
  cases h with
  | agg xs vs hl h1 hh =>
    cases hz
    match vs, hl with
    | [v0, v1, v2, v3, v4, v5], _ =>
      have e0 := rc_lit (hh 0 (by simp))
      have e1 := rc_lit (hh 1 (by simp))
      have e2 := rc_lit (hh 2 (by simp))
      have e3 := rc_lit (hh 3 (by simp))
      have e4 := rc_lit (hh 4 (by simp))
      have e5 := rc_lit (hh 5 (by simp))
      simp only [List.getD_cons_zero, List.getD_cons_succ] at e0 e1 e2 e3 e4 e5
      subst e0 e1 e2 e3 e4 e5
      rfl
  | _ => cases hz
theorem parsed_pc {x : Ins} (h : Rd x) : PC Tryz.prog 53 [.lit (.string (bs (lineB x)))] (.tup [opV x, .lit (.bool true)]) := by
  intro C w vs hl hin
  rw [lit1 hl]
  have hr : ∀ w1 : World, More w w1 → Calls Tryz.prog 89 #[.string (bs (lineB x))] w1 fun e w' => e = .returned (.agg #[.int .i64 x.code, .string x.prim, .int .i64 x.a, .int .i64 x.b, .int .i64 x.c, .int .i64 x.d]) ∧ RowKit.Below w1.heap.size w1 w' := fun w1 hm => by
    refine (read_pc h C w1 [.string (bs (lineB x))] ⟨rfl, fun i hi => ?_⟩ ⟨fun k o u hu => hm.cell (hin.1 k o u hu), hin.2.up hm.block⟩).mono ?_
    · match i, hi with
      | 0, _ => exact .lit _
    · rintro e w' ⟨v, C', rfl, _, h2, _, h4, _⟩
      rw [rc_op h2]
      exact ⟨rfl, More.below h4⟩
  refine (parsed_calls w hr).mono ?_
  rintro e w' ⟨rfl, hb⟩
  have hm := More.of_below hb
  refine ⟨_, C, rfl, CLe.refl _, ?_, ⟨fun k o u hu => hm.cell (hin.1 k o u hu), hin.2.up hm.block⟩, hm, fun _ _ _ => rfl⟩
  obtain ⟨k, p, a, b, c, d⟩ := x
  refine RC.tup [opV ⟨k, p, a, b, c, d⟩, .lit (.bool true)] [_, _] rfl fun i hi => ?_
  match i, hi with
  | 0, _ =>
    refine RC.agg [.lit (.int .i64 k), .lit (.string p), .lit (.int .i64 a), .lit (.int .i64 b), .lit (.int .i64 c), .lit (.int .i64 d)] [.int .i64 k, .string p, .int .i64 a, .int .i64 b, .int .i64 c, .int .i64 d] rfl (fun i hi => ?_) fun i hi => ?_
    · match i, hi with
      | 0, _ => rfl
      | 1, _ => rfl
      | 2, _ => rfl
      | 3, _ => rfl
      | 4, _ => rfl
      | 5, _ => rfl
    · match i, hi with
      | 0, _ => exact .lit _
      | 1, _ => exact .lit _
      | 2, _ => exact .lit _
      | 3, _ => exact .lit _
      | 4, _ => exact .lit _
      | 5, _ => exact .lit _
  | 1, _ => exact .lit _
end Go.Proofs.YtohiagaclfaolaaGreatDoor.Tx

/- The text of awake's example parsed. -/
namespace Go.Proofs.YtohiagaclfaolaaGreatDoor.Tx
open Go.Proofs.YtohiagaclfaolaaGreatDoor
open Go Go.Fw Bm
set_option maxRecDepth 20000
def ln0 : List UInt8 := [99, 111, 110, 115, 116, 32, 114, 49, 32, 52]
def in0 : Ins := ⟨1, ByteArray.empty, 1, 4, 0, 0⟩
def ln1 : List UInt8 := [102, 111, 114, 32, 114, 48, 32, 114, 50, 32, 114, 49, 32, 49]
def in1 : Ins := ⟨10, ByteArray.empty, 0, 2, 1, 1⟩
def ln2 : List UInt8 := [101, 110, 100]
def in2 : Ins := ⟨13, ByteArray.empty, 0, 0, 0, 0⟩
def tx0 : List UInt8 := [99, 111, 110, 115, 116, 32, 114, 49, 32, 52, 10, 102, 111, 114, 32, 114, 48, 32, 114, 50, 32, 114, 49, 32, 49, 10, 101, 110, 100, 10]
def tx1 : List UInt8 := [102, 111, 114, 32, 114, 48, 32, 114, 50, 32, 114, 49, 32, 49, 10, 101, 110, 100, 10]
def tx2 : List UInt8 := [101, 110, 100, 10]
def tx3 : List UInt8 := []
theorem line0 : lineB in0 = ln0 := by decide +kernel
theorem rd0 : Rd in0 where
  sm := ⟨by decide +kernel, by decide +kernel, by decide +kernel⟩
  c1 := by decide
  c5 := by decide
  prim := rfl
  split := by decide +kernel
  idx := by decide +kernel
  right := by decide +kernel
  zero := fun i hi => by
    match i with
    | 0 => revert hi; decide +kernel
    | 1 => revert hi; decide +kernel
    | 2 => revert hi; decide +kernel
    | 3 => revert hi; decide +kernel
    | _ + 4 => rfl
  num := by decide +kernel
  numl := by decide +kernel
theorem parsed0 : PC Tryz.prog 53 [.lit (.string (bs ln0))] (.tup [opV in0, .lit (.bool true)]) := by
  rw [← line0]; exact parsed_pc rd0
theorem cut0 : cutV 10 tx0 = .tup [.lit (.string (bs ln0)), .lit (.string (bs tx1)), .lit (.bool true)] := cutV_some (by decide)
theorem ne0 : (tx0 == []) = false := rfl
theorem line1 : lineB in1 = ln1 := by decide +kernel
theorem rd1 : Rd in1 where
  sm := ⟨by decide +kernel, by decide +kernel, by decide +kernel⟩
  c1 := by decide
  c5 := by decide
  prim := rfl
  split := by decide +kernel
  idx := by decide +kernel
  right := by decide +kernel
  zero := fun i hi => by
    match i with
    | 0 => revert hi; decide +kernel
    | 1 => revert hi; decide +kernel
    | 2 => revert hi; decide +kernel
    | 3 => revert hi; decide +kernel
    | _ + 4 => rfl
  num := by decide +kernel
  numl := by decide +kernel
theorem parsed1 : PC Tryz.prog 53 [.lit (.string (bs ln1))] (.tup [opV in1, .lit (.bool true)]) := by
  rw [← line1]; exact parsed_pc rd1
theorem cut1 : cutV 10 tx1 = .tup [.lit (.string (bs ln1)), .lit (.string (bs tx2)), .lit (.bool true)] := cutV_some (by decide)
theorem ne1 : (tx1 == []) = false := rfl
theorem line2 : lineB in2 = ln2 := by decide +kernel
theorem rd2 : Rd in2 where
  sm := ⟨by decide +kernel, by decide +kernel, by decide +kernel⟩
  c1 := by decide
  c5 := by decide
  prim := rfl
  split := by decide +kernel
  idx := by decide +kernel
  right := by decide +kernel
  zero := fun i hi => by
    match i with
    | 0 => revert hi; decide +kernel
    | 1 => revert hi; decide +kernel
    | 2 => revert hi; decide +kernel
    | 3 => revert hi; decide +kernel
    | _ + 4 => rfl
  num := by decide +kernel
  numl := by decide +kernel
theorem parsed2 : PC Tryz.prog 53 [.lit (.string (bs ln2))] (.tup [opV in2, .lit (.bool true)]) := by
  rw [← line2]; exact parsed_pc rd2
theorem cut2 : cutV 10 tx2 = .tup [.lit (.string (bs ln2)), .lit (.string (bs tx3)), .lit (.bool true)] := cutV_some (by decide)
theorem ne2 : (tx2 == []) = false := rfl
def p26 (s : ByteArray) : VR := if s = bs ln0 then some (True, .tup [opV in0, .lit (.bool true)]) else if s = bs ln1 then some (True, .tup [opV in1, .lit (.bool true)]) else if s = bs ln2 then some (True, .tup [opV in2, .lit (.bool true)]) else none
noncomputable def con53 : PCon Tryz.prog where
  f := 53
  c := fun
    | [.lit (.string s)] => p26 s
    | _ => none
  ok := by
    intro args p r hc hp
    split at hc
    · unfold p26 at hc
      split at hc
      · rename_i h; cases hc; rw [h]; exact parsed0
      · split at hc
        · rename_i h; cases hc; rw [h]; exact parsed1
        · split at hc
          · rename_i h; cases hc; rw [h]; exact parsed2
          · cases hc
    · cases hc
  fk := fk53
theorem con53_f : con53.f = 53 := rfl
theorem con53_0 : con53.c [.lit (.string (bs ln0))] = some (True, .tup [.agg [.lit (.int .i64 1), .lit (.string ByteArray.empty), .lit (.int .i64 1), .lit (.int .i64 4), .lit (.int .i64 0), .lit (.int .i64 0)], .lit (.bool true)]) := by
  show p26 (bs ln0) = _
  unfold p26
  rw [if_pos rfl]; rfl
theorem con53_1 : con53.c [.lit (.string (bs ln1))] = some (True, .tup [.agg [.lit (.int .i64 10), .lit (.string ByteArray.empty), .lit (.int .i64 0), .lit (.int .i64 2), .lit (.int .i64 1), .lit (.int .i64 1)], .lit (.bool true)]) := by
  show p26 (bs ln1) = _
  unfold p26
  rw [if_neg (by decide), if_pos rfl]; rfl
theorem con53_2 : con53.c [.lit (.string (bs ln2))] = some (True, .tup [.agg [.lit (.int .i64 13), .lit (.string ByteArray.empty), .lit (.int .i64 0), .lit (.int .i64 0), .lit (.int .i64 0), .lit (.int .i64 0)], .lit (.bool true)]) := by
  show p26 (bs ln2) = _
  unfold p26
  rw [if_neg (by decide), if_neg (by decide), if_pos rfl]; rfl
attribute [go_sem] con53_f con53_0 con53_1 con53_2
def txI (i : Nat) : List UInt8 := [tx0, tx1, tx2, tx3].getD i []
def insL : List Ins := [in0, in1, in2]
theorem tI0 : txI 0 = tx0 := rfl
theorem tI1 : txI 1 = tx1 := rfl
theorem tI2 : txI 2 = tx2 := rfl
theorem tI3 : txI 3 = [] := rfl
noncomputable def Y9 : Env := envJ (P := Tryz.prog) jkV zer (fun _ => false) (fun _ => false) [con52, con53] []
theorem Y9_ok : EnvOk Tryz.prog Y9 := envJOk zer_ok
theorem tk_len {i : Nat} (h : i ≤ 3) : (opsV (insL.take i)).length = i := by rw [opsV_length, List.length_take]; exact Nat.min_eq_left h
set_option maxHeartbeats 8000000 in
theorem parse_pc : PC Tryz.prog 19 [.lit (.string (bs (txI 0)))] (.tup [.sl false 6 (opsV insL), .lit (.int .i64 0), .lit (.int .i64 0)]) := by
  refine pcR Y9_ok (kp19) Tryz.func19 [.tmp 2, .tmp 3, .tmp 4] (h := fun KF => ?_)
  unfold Y9
  repeat' (first
   | (with_reducible first | refine nx ?_ | refine t_seq fun K => ?_ | refine t_br (fun hc => ?_) fun hc => ?_ | refine t_bx ?_ | apply And.intro | intro vr)
   | ((with_reducible first | refine ny ?_ | refine t_dwh (h := fun K KL => ?_)); intros; simp only [go_sem, kp19, geff]))
  all_goals try exact nd
  refine t_loopF (ι := { q : Nat × Nat // q.1 ≤ 3 }) (fun i => [(0, .lit (.string (bs (txI i.1.1)))), (2, .arr 0 i.1.2)]) (fun i => [.arr 50 6 (opsV (insL.take i.1.1)) i.1.2 false]) (fun i => 3 - i.1.1) ⟨(0, 0), by simp⟩ ?_ ?_
  · refine (le_nil 2 50 6 rfl).trans ?_
    exact lf
  rintro ⟨⟨i, v⟩, hi⟩ K0
  simp only at hi
  have hl := tk_len hi
  rcases (show i = 0 ∨ i = 1 ∨ i = 2 ∨ i = 3 by omega) with rfl | rfl | rfl | rfl
  · have hq : ((((0 : Nat) : Int)) == 5000) = false := rfl
    have htl : tx0.length ≤ 1000000000 := by decide
    repeat' (first
     | (with_reducible first | refine nx ?_ | refine t_seq fun K => ?_ | refine t_br (fun hc => ?_) fun hc => ?_ | refine t_bx ?_ | apply And.intro | intro vr)
     | ((with_reducible first | refine ny ?_ | refine t_dwh (h := fun K KL => ?_)); intros; simp only [go_sem, kp19, geff, tI0, ne0, hl, hq, cut0, yes]))
    all_goals try exact nd
    refine ⟨⟨(1, v + 1), by simp only; omega⟩, by first | (simp only; omega) | omega, ?_⟩
    try simp only [updL_nil, updL_cons, delF_top, delF_upd, Nat.reduceEqDiff, reduceIte]
    refine le_backD (by first | rfl | (simp only [go_sem]; try rfl)) (by first | exact Nat.zero_le _ | simp) (by first | rfl | simp [lowO, low_lit, low_sl, low_ref, low_arr, low_sub, low_mp]) ?_ ?_
    · repeat' (first | exact low_top | (refine low_upd rfl ?_))
    repeat' (first | exact leF_top _ | exact (fun _ => LeR.refl _) | (with_reducible refine leF_sl ?_ ?_) | (refine leF_upd ?_ ?_))
    all_goals (first | exact LeR.top _ | exact LeR.refl _ | (refine LeR.of_eq ?_; (try simp only [go_sem]); try rfl) | ((try simp only [go_sem]); try rfl))
  · have hq : ((((1 : Nat) : Int)) == 5000) = false := rfl
    have htl : tx1.length ≤ 1000000000 := by decide
    repeat' (first
     | (with_reducible first | refine nx ?_ | refine t_seq fun K => ?_ | refine t_br (fun hc => ?_) fun hc => ?_ | refine t_bx ?_ | apply And.intro | intro vr)
     | ((with_reducible first | refine ny ?_ | refine t_dwh (h := fun K KL => ?_)); intros; simp only [go_sem, kp19, geff, tI1, ne1, hl, hq, cut1, yes]))
    all_goals try exact nd
    refine ⟨⟨(2, v + 1), by simp only; omega⟩, by first | (simp only; omega) | omega, ?_⟩
    try simp only [updL_nil, updL_cons, delF_top, delF_upd, Nat.reduceEqDiff, reduceIte]
    refine le_backD (by first | rfl | (simp only [go_sem]; try rfl)) (by first | exact Nat.zero_le _ | simp) (by first | rfl | simp [lowO, low_lit, low_sl, low_ref, low_arr, low_sub, low_mp]) ?_ ?_
    · repeat' (first | exact low_top | (refine low_upd rfl ?_))
    repeat' (first | exact leF_top _ | exact (fun _ => LeR.refl _) | (with_reducible refine leF_sl ?_ ?_) | (refine leF_upd ?_ ?_))
    all_goals (first | exact LeR.top _ | exact LeR.refl _ | (refine LeR.of_eq ?_; (try simp only [go_sem]); try rfl) | ((try simp only [go_sem]); try rfl))
  · have hq : ((((2 : Nat) : Int)) == 5000) = false := rfl
    have htl : tx2.length ≤ 1000000000 := by decide
    repeat' (first
     | (with_reducible first | refine nx ?_ | refine t_seq fun K => ?_ | refine t_br (fun hc => ?_) fun hc => ?_ | refine t_bx ?_ | apply And.intro | intro vr)
     | ((with_reducible first | refine ny ?_ | refine t_dwh (h := fun K KL => ?_)); intros; simp only [go_sem, kp19, geff, tI2, ne2, hl, hq, cut2, yes]))
    all_goals try exact nd
    refine ⟨⟨(3, v + 1), by simp only; omega⟩, by first | (simp only; omega) | omega, ?_⟩
    try simp only [updL_nil, updL_cons, delF_top, delF_upd, Nat.reduceEqDiff, reduceIte]
    refine le_backD (by first | rfl | (simp only [go_sem]; try rfl)) (by first | exact Nat.zero_le _ | simp) (by first | rfl | simp [lowO, low_lit, low_sl, low_ref, low_arr, low_sub, low_mp]) ?_ ?_
    · repeat' (first | exact low_top | (refine low_upd rfl ?_))
    repeat' (first | exact leF_top _ | exact (fun _ => LeR.refl _) | (with_reducible refine leF_sl ?_ ?_) | (refine leF_upd ?_ ?_))
    all_goals (first | exact LeR.top _ | exact LeR.refl _ | (refine LeR.of_eq ?_; (try simp only [go_sem]); try rfl) | ((try simp only [go_sem]); try rfl))
  · have hn : (([] : List UInt8) == []) = true := rfl
    repeat' (first
     | (with_reducible first | refine nx ?_ | refine t_seq fun K => ?_ | refine t_br (fun hc => ?_) fun hc => ?_ | refine t_bx ?_ | apply And.intro | intro vr)
     | ((with_reducible first | refine ny ?_ | refine t_dwh (h := fun K KL => ?_)); intros; simp only [go_sem, kp19, geff, tI3, hn, yes]))
    all_goals try exact nd
    all_goals (refine nl ?_; simp only [go_sem])
    exact LeA.refl _
end Go.Proofs.YtohiagaclfaolaaGreatDoor.Tx

/- awake. -/
namespace Go.Proofs.YtohiagaclfaolaaGreatDoor.Tx
open Go.Proofs.YtohiagaclfaolaaGreatDoor
open Go Go.Fw Bm
set_option maxRecDepth 20000
def p17 (s : ByteArray) : VR := if s = bs tx0 then some (True, .tup [.sl false 6 (opsV insL), .lit (.int .i64 0), .lit (.int .i64 0)]) else none
noncomputable def con19 : PCon Tryz.prog where
  f := 19
  c := fun
    | [.lit (.string s)] => p17 s
    | _ => none
  ok := by
    intro args p r hc hp
    split at hc
    · unfold p17 at hc
      split at hc
      · rename_i h; cases hc; rw [h]; exact parse_pc
      · cases hc
    · cases hc
  fk := fk19
theorem con19_f : con19.f = 19 := rfl
theorem con19_c : con19.c [.lit (.string ⟨#[99, 111, 110, 115, 116, 32, 114, 49, 32, 52, 10, 102, 111, 114, 32, 114, 48, 32, 114, 50, 32, 114, 49, 32, 49, 10, 101, 110, 100, 10]⟩)] = some (True, .tup [.sl false 6 (opsV insL), .lit (.int .i64 0), .lit (.int .i64 0)]) := by
  show p17 (bs tx0) = _
  unfold p17
  rw [if_pos rfl]
theorem ok0 : OkB ⟨0, 0, [], [], [], []⟩ := by
  constructor <;> simp
theorem valid0 : validS ⟨0, 0, [], [], [], []⟩ = true := by decide +kernel
noncomputable def con18z : PCon Tryz.prog where
  f := 14
  c := fun
    | [.agg [.lit (.int .i64 0), .lit (.int .i64 0), .sl _ 6 [], .sl _ 2 [], .sl _ 2 [], .sl _ 3 []]] => some (True, .lit (.bool true))
    | _ => none
  ok := by
    intro args p r hc hp
    split at hc
    · cases hc
      have h := bvalid_pc ok0 ⟨by decide, by decide⟩
      rw [valid0] at h
      exact PC.weak h ⟨LeA.agg ⟨LeA.refl _, LeA.refl _, LeA.full _ _ _, LeA.full _ _ _, LeA.full _ _ _, LeA.full _ _ _, trivial⟩, trivial⟩
    · cases hc
  fk := fk14
theorem con18z_f : con18z.f = 14 := rfl
theorem con18z_c {a b c d : Bool} : con18z.c [.agg [.lit (.int .i64 0), .lit (.int .i64 0), .sl a 6 [], .sl b 2 [], .sl c 2 [], .sl d 3 []]] = some (True, .lit (.bool true)) := rfl
attribute [go_sem] con19_f con19_c con18z_f con18z_c
theorem match0 : matchV insL = .tup [.sl false 1 (ints .i64 [0, 2, 2]), .lit (.bool true)] := by
  unfold matchV; rw [show matchS insL = some [0, 2, 2] by decide +kernel]
def elsI : Ins := ⟨12, ByteArray.empty, 0, 0, 0, 0⟩
theorem match1 : matchV [elsI] = .tup [.sl false 1 [], .lit (.bool false)] := by
  unfold matchV; rw [show matchS [elsI] = none by decide +kernel]
theorem els_of {b : Bool} : opsOf (.sl b 6 [.agg [.lit (.int .i64 12), .lit (.string (bs [])), .lit (.int .i64 0), .lit (.int .i64 0), .lit (.int .i64 0), .lit (.int .i64 0)]]) = some [elsI] := rfl
theorem insL_len : insL.length = 3 := rfl
theorem ins_at : opV (insL.getD 1 nilI) = .agg [.lit (.int .i64 10), .lit (.string (bs [])), .lit (.int .i64 0), .lit (.int .i64 2), .lit (.int .i64 1), .lit (.int .i64 1)] := rfl
theorem k022 {b : Bool} : slK .i64 (.sl b 1 [.lit (.int .i64 0), .lit (.int .i64 2), .lit (.int .i64 2)]) = some [0, 2, 2] := rfl
attribute [go_sem] con23_f con23_c k022
noncomputable def Ya : Env := envJ (P := Tryz.prog) jkV zer (fun _ => false) (fun _ => false) [con19, con22, con23, con18z] []
theorem Ya_ok : EnvOk Tryz.prog Ya := envJOk zer_ok
set_option maxHeartbeats 8000000 in
theorem awake_pc : PC Tryz.prog 6 [] (.lit (.bool true)) := by
  have hn : (([] : List UInt8) == []) = true := rfl
  have h3 : (((3 : Nat) : Int) == 3) = true := rfl
  have h022 : decide (([0, 2, 2] : List Int) = [0, 2, 2]) = true := rfl
  have hl1 : ([0, 2, 2] : List Int).length ≤ 1000000 := by decide
  have hl2 : insL.length ≤ 1000000 := by decide
  have hl3 : [elsI].length ≤ 1000000 := by decide
  refine pcR Ya_ok (kp6) Tryz.func6 [.tmp 0] (h := fun KF => ?_)
  unfold Ya
  repeat' (first
   | (with_reducible first | refine nx ?_ | refine t_seq fun K => ?_ | refine t_br (fun hc => ?_) fun hc => ?_ | refine t_bx ?_ | apply And.intro | intro vr)
   | ((with_reducible first | refine ny ?_ | refine t_dwh (h := fun K KL => ?_)); intros; simp only [go_sem, kp6, geff, match0, els_of, match1, insL_len, ins_at, h3, h022, hn, yes]))
  all_goals try exact nd
  all_goals (refine nl ?_; simp only [go_sem])
  exact LeA.refl _
end Go.Proofs.YtohiagaclfaolaaGreatDoor.Tx

/- The law of Valid. -/
namespace Go.Proofs.YtohiagaclfaolaaGreatDoor.Tx
open Go.Proofs.YtohiagaclfaolaaGreatDoor
open Go Go.Fw Bm
set_option maxRecDepth 20000
theorem bcOf_B {B : Prg} : bcOf (.agg [.lit (.int .i64 B.regs), .lit (.int .i64 B.arena), .sl false 6 (opsV B.ops), .sl false 2 (plsV B.ins), .sl false 2 (plsV B.outs), .sl false 3 (arrs B.types)]) = some B := bcOf_mk
noncomputable def con6 : PCon Tryz.prog where
  f := 6
  c := fun
    | [] => some (True, .lit (.bool true))
    | _ => none
  ok := by
    intro args p r hc hp
    split at hc
    · cases hc; exact awake_pc
    · cases hc
  fk := fk6
theorem con6_f : con6.f = 6 := rfl
theorem con6_c  : con6.c [] = some (True, .lit (.bool true)) := rfl
noncomputable def con15 : PCon Tryz.prog where
  f := 15
  c := fun
    | [xB] => match bcOf xB with | some B => some (OkB B, .lit (.bool (validS B))) | _ => none
    | _ => none
  ok := by
    intro args p r hc hp
    split at hc
    · split at hc
      · rename_i hB
        cases hc
        exact PC.weak (rvalid_pc hp) ⟨bcOf_le hB, trivial⟩
      · cases hc
    · cases hc
  fk := fk15
theorem con15_f : con15.f = 15 := rfl
theorem con15_c {xB : AV} : con15.c [xB] = match bcOf xB with | some B => some (OkB B, .lit (.bool (validS B))) | _ => none := rfl
structure OkBL (B : Prg) : Prop where
  ok : OkB B
  ins : B.ins.length ≤ 100000
  outs : B.outs.length ≤ 100000
theorem bvalid_pc2 {B : Prg} (h : OkBL B) : PC Tryz.prog 14 [bcV B] (.lit (.bool (validS B))) := bvalid_pc h.ok ⟨h.ins, h.outs⟩
noncomputable def con14 : PCon Tryz.prog where
  f := 14
  c := fun
    | [xB] => match bcOf xB with | some B => some (OkBL B, .lit (.bool (validS B))) | _ => none
    | _ => none
  ok := by
    intro args p r hc hp
    split at hc
    · split at hc
      · rename_i hB
        cases hc
        exact PC.weak (bvalid_pc2 hp) ⟨bcOf_le hB, trivial⟩
      · cases hc
    · cases hc
  fk := fk14
theorem con14_f : con14.f = 14 := rfl
theorem con14_c {xB : AV} : con14.c [xB] = match bcOf xB with | some B => some (OkBL B, .lit (.bool (validS B))) | _ => none := rfl
attribute [go_sem] con6_f con6_c con14_f con14_c con15_f con15_c
noncomputable def Yv : Env := envJ (P := Tryz.prog) jkV zer (fun _ => false) (fun _ => false) [con6, con7, con14, con15] []
theorem Yv_ok : EnvOk Tryz.prog Yv := envJOk zer_ok
set_option maxHeartbeats 4000000 in
theorem law4_pc {B : Prg} (hA : ArgB B) : PC Tryz.prog 4 [bcV B] (.lit (.bool true)) := by
  simp only [bcV]
  cases hs : smB 30 B with
  | false =>
    refine pcR Yv_ok (kp4) Tryz.func4 [.tmp 2] (h := fun KF => ?_)
    unfold Yv
    repeat' (first
     | (with_reducible first | refine nx ?_ | refine t_seq fun K => ?_ | refine t_br (fun hc => ?_) fun hc => ?_ | refine t_bx ?_ | apply And.intro | intro vr)
     | ((with_reducible first | refine ny ?_ | refine t_dwh (h := fun K KL => ?_)); intros; simp only [go_sem, kp4, geff, bcOf_B, hs, Bool.not_true, Bool.not_false]))
    all_goals try exact nd
    all_goals (refine nl ?_; simp only [go_sem])
    exact LeA.refl _
  | true =>
    obtain ⟨hO, hi, hu, _⟩ := sm_inv hs
    have hOL : OkBL B := ⟨hO, by omega, by omega⟩
    cases hv : validS B with
    | false =>
      refine pcR Yv_ok (kp4) Tryz.func4 [.tmp 2] (h := fun KF => ?_)
      unfold Yv
      repeat' (first
       | (with_reducible first | refine nx ?_ | refine t_seq fun K => ?_ | refine t_br (fun hc => ?_) fun hc => ?_ | refine t_bx ?_ | apply And.intro | intro vr)
       | ((with_reducible first | refine ny ?_ | refine t_dwh (h := fun K KL => ?_)); intros; simp only [go_sem, kp4, geff, bcOf_B, hs, hv, Bool.not_true, Bool.not_false, beq_self_eq_true]))
      all_goals try exact nd
      all_goals (refine nl ?_; simp only [go_sem])
      exact LeA.refl _
    | true =>
      refine pcR Yv_ok (kp4) Tryz.func4 [.tmp 2] (h := fun KF => ?_)
      unfold Yv
      repeat' (first
       | (with_reducible first | refine nx ?_ | refine t_seq fun K => ?_ | refine t_br (fun hc => ?_) fun hc => ?_ | refine t_bx ?_ | apply And.intro | intro vr)
       | ((with_reducible first | refine ny ?_ | refine t_dwh (h := fun K KL => ?_)); intros; simp only [go_sem, kp4, geff, bcOf_B, hs, hv, Bool.not_true, Bool.not_false, beq_self_eq_true]))
      all_goals try exact nd
      all_goals (refine nl ?_; simp only [go_sem])
      exact LeA.refl _
end Go.Proofs.YtohiagaclfaolaaGreatDoor.Tx

/- The row's listed variables give what every world has. -/
namespace Go.Proofs.YtohiagaclfaolaaGreatDoor.Tx
open Go.Proofs.YtohiagaclfaolaaGreatDoor
open Go Go.Fw
set_option maxRecDepth 20000
theorem trod_if {H : Type} {enc : TypeId × Value → H} {P : Program} {w : World} {base : Nat} {sp : Nat → Bool} {held : Bool} {fuel : Nat} {t : TypeId} {ms : Array (String × TypeId)} {cs : List Value} {n : String} {d : DataW H} {p : List MemPlace}
    (ht : P.underlying t = some (.interface ms)) (h : DataW.trod enc P w base sp held fuel t cs = some (.iface n d, p)) : ∃ u v, cs = [.iface u v] := by
  cases fuel with
  | zero => simp [DataW.trod] at h
  | succ fuel =>
    simp only [DataW.trod, ht] at h
    split at h
    all_goals first
      | exact ⟨_, _, rfl⟩
      | (rename_i hx; cases hx; done)
      | skip
    all_goals cases h
theorem tabs_of {W : World} (h : laidMet Tryz.prog Rows.bytecodeValidRow.laid W) : Tabs W := by
  obtain ⟨ps, h, _⟩ := h
  obtain ⟨g1, t1, c1, f1, p1, q1, _, _, _, _, h, _⟩ := h
  obtain ⟨g2, t2, c2, f2, p2, q2, _, _, _, _, h, _⟩ := h
  obtain ⟨g3, t3, c3, f3, p3, q3, a3, b3, v3, d3, h, _⟩ := h
  obtain ⟨g4, t4, c4, f4, p4, q4, _, _, _, _, h, _⟩ := h
  obtain ⟨g5, t5, c5, f5, p5, q5, a5, b5, v5, d5, h, _⟩ := h
  obtain ⟨g6, t6, c6, f6, p6, q6, a6, b6, v6, d6, h, _⟩ := h
  obtain rfl := Option.some.inj ((show Tryz.prog.globalNamed "internal/strconv.uint64pow10" = some 1 by kernel_rfl).symm.trans a3)
  obtain rfl := Option.some.inj ((show (Tryz.prog.globals[1]?).map (·.type) = some 172 by kernel_rfl).symm.trans b3)
  obtain rfl := Option.some.inj ((show Tryz.prog.globalNamed "strconv.ErrRange" = some 3 by kernel_rfl).symm.trans a5)
  obtain rfl := Option.some.inj ((show (Tryz.prog.globals[3]?).map (·.type) = some 82 by kernel_rfl).symm.trans b5)
  obtain rfl := Option.some.inj ((show Tryz.prog.globalNamed "strconv.ErrSyntax" = some 2 by kernel_rfl).symm.trans a6)
  obtain rfl := Option.some.inj ((show (Tryz.prog.globals[2]?).map (·.type) = some 82 by kernel_rfl).symm.trans b6)
  obtain ⟨ms, hm⟩ : ∃ ms, Tryz.prog.underlying 82 = some (.interface ms) := ⟨_, Tryz.underlying82⟩
  obtain ⟨u5, w5, e5⟩ := trod_if hm d5
  obtain ⟨u6, w6, e6⟩ := trod_if hm d6
  have hd : DataW.trod (fun _ => ()) Tryz.prog W 0 (fun _ => true) false f3 172 c3.toList = some (Lib.tabData .u64 Lib.pow10Tab, p3) := by
    rw [d3]; exact congrArg (fun z => some (z, p3)) (by kernel_rfl)
  refine ⟨?_, ⟨u6, w6, ?_⟩, ⟨u5, w5, ?_⟩⟩
  · unfold Lib.TabIs
    rw [v3, ← Lib.cells_of_tab Tryz.underlying172 Tryz.underlying95 (by kernel_rfl) (by kernel_rfl) hd]
  · rw [v6, ← e6]
  · rw [v5, ← e5]
end Go.Proofs.YtohiagaclfaolaaGreatDoor.Tx
