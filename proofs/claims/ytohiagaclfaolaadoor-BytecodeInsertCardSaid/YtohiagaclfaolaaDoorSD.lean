/- Contracts of the library, laid by the shelf's plain mode. -/
import Derived.Shelf.Strings.OnBuilder
import Derived.Shelf.Strconv.Atoi
import Derived.Shelf.Strconv.Itoa3
import Derived.Test.YtohiagaclfaolaaDoorProg
import Derived.Test.YtohiagaclfaolaaDoorSC
import Derived.Test.YtohiagaclfaolaaDoorSB
import Derived.Test.YtohiagaclfaolaaDoorSA

set_option linter.all false

namespace Go.Proofs
open Go.Shelf
def Tryd.lays156_ren : Go.Shelf.Ren := ⟨fun | 156 => 56 | 165 => 67 | 166 => 68 | 169 => 69 | 240 => 80 | 241 => 81 | 276 => 90 | 277 => 91 | n => n, fun | 31 => 69 | 9 => 9 | 3 => 3 | 4 => 4 | 0 => 0 | 20 => 20 | 72 => 116 | 76 => 102 | 70 => 113 | 37 => 114 | 75 => 101 | 127 => 129 | 164 => 142 | 5 => 5 | 80 => 118 | n => n, fun | n => n⟩
theorem Tryd.lays156 : Go.Proofs.Lays.n156 Tryd.prog Tryd.lays156_ren := {
  mixed := by kernel_rfl
  f156 := Tryd.func56.trans (congrArg some (by kernel_rfl))
  f165 := Tryd.func67.trans (congrArg some (by kernel_rfl))
  f166 := Tryd.func68.trans (congrArg some (by kernel_rfl))
  f169 := Tryd.func69.trans (congrArg some (by kernel_rfl))
  f240 := Tryd.func80.trans (congrArg some (by kernel_rfl))
  f241 := Tryd.func81.trans (congrArg some (by kernel_rfl))
  f276 := Tryd.func90.trans (congrArg some (by kernel_rfl))
  f277 := Tryd.func91.trans (congrArg some (by kernel_rfl))
  t0 := Tryd.underlying0
  a0 := Tryd.isAgg0
  z0 := Tryd.sizeOf0
  v0 := Tryd.zeroValue0
  t3 := Tryd.underlying3
  a3 := Tryd.isAgg3
  z3 := Tryd.sizeOf3
  v3 := Tryd.zeroValue3
  t4 := Tryd.underlying4
  a4 := Tryd.isAgg4
  z4 := Tryd.sizeOf4
  v4 := Tryd.zeroValue4
  t9 := Tryd.underlying9
  a9 := Tryd.isAgg9
  z9 := Tryd.sizeOf9
  v9 := Tryd.zeroValue9
  t20 := Tryd.underlying20
  a20 := Tryd.isAgg20
  z20 := Tryd.sizeOf20
  v20 := Tryd.zeroValue20
  t31 := Tryd.underlying69
  a31 := Tryd.isAgg69
  z31 := Tryd.sizeOf69
  v31 := Tryd.zeroValue69
  t37 := Tryd.underlying114
  a37 := Tryd.isAgg114
  z37 := Tryd.sizeOf114
  v37 := Tryd.zeroValue114
  t70 := Tryd.underlying113
  a70 := Tryd.isAgg113
  z70 := Tryd.sizeOf113
  v70 := Tryd.zeroValue113
  t72 := Tryd.underlying116
  a72 := Tryd.isAgg116
  z72 := Tryd.sizeOf116
  v72 := Tryd.zeroValue116
  t75 := Tryd.underlying101
  a75 := Tryd.isAgg101
  z75 := Tryd.sizeOf101
  v75 := Tryd.zeroValue101
  t76 := Tryd.underlying102
  a76 := Tryd.isAgg102
  z76 := Tryd.sizeOf102
  v76 := Tryd.zeroValue102
  t127 := Tryd.underlying129
  a127 := Tryd.isAgg129
  z127 := Tryd.sizeOf129
  v127 := Tryd.zeroValue129
  t164 := Tryd.underlying142
  a164 := Tryd.isAgg142
  z164 := Tryd.sizeOf142
  v164 := Tryd.zeroValue142 }
theorem Tryd.Builder_Extra_156 : Builder.Extra Tryd.prog Tryd.lays156_ren := {
  sizeBuilder := by kernel_rfl
  liesBuilder := by kernel_rfl
  t5 := Tryd.underlying5
  a5 := Tryd.isAgg5
  z5 := Tryd.sizeOf5
  v5 := Tryd.zeroValue5
  infoByte := by kernel_rfl
  cellsByte := by kernel_rfl
  sizeByte := by kernel_rfl
  neB5 := by decide }
open Go.RowKit in
theorem Tryd.strings_Join_none (a : Option Addr) (c : Nat) (sep : ByteArray) (w : World) :
    Calls Tryd.prog 56 #[.slice a 0 c, .string sep] w fun e w' => e = .returned (.string ⟨#[]⟩) ∧ w' = w := Any.strings_Join_none Tryd.lays156 Tryd.Builder_Extra_156 a c sep w
open Go.RowKit in
theorem Tryd.strings_Join (bk o c : Nat) (xs : List ByteArray) (sep : ByteArray) (w : World) (hcells : ∀ (j : Nat) x, xs[j]? = some x → w.cell? ⟨bk, o + j, none⟩ = some (.string x)) (hbk : bk < w.heap.size) (hN : xs.length ≤ 140737488355328) (hcap : xs.length ≤ c) (hlen : (Lib.join (xs.map (·.data.toList)) sep.data.toList).length ≤ 140737488355328) :
    Calls Tryd.prog 56 #[.slice (some ⟨bk, o, none⟩) xs.length c, .string sep] w fun e w' => e = .returned (.string ⟨(Lib.join (xs.map (·.data.toList)) sep.data.toList).toArray⟩) ∧ Below w.heap.size w w' := Any.strings_Join Tryd.lays156 Tryd.Builder_Extra_156 bk o c xs sep w hcells hbk hN hcap hlen
def Tryd.lays172_ren : Go.Shelf.Ren := ⟨fun | 172 => 53 | 244 => 63 | 245 => 64 | 247 => 73 | 279 => 74 | 280 => 75 | 281 => 76 | 282 => 77 | 287 => 83 | 316 => 84 | 171 => 55 | 205 => 85 | 321 => 92 | 322 => 93 | 243 => 66 | 246 => 79 | 283 => 86 | 284 => 87 | 285 => 88 | 286 => 89 | 129 => 95 | 317 => 94 | 318 => 96 | 319 => 97 | 320 => 98 | 337 => 99 | 338 => 100 | n => n, fun | 9 => 9 | 3 => 3 | 75 => 101 | 76 => 102 | 4 => 4 | 5 => 5 | 167 => 121 | 37 => 114 | 0 => 0 | 85 => 122 | 2 => 2 | 168 => 124 | 53 => 130 | 175 => 131 | 46 => 98 | 210 => 135 | 127 => 129 | 145 => 153 | 143 => 151 | 21 => 21 | 171 => 137 | 173 => 140 | 212 => 155 | 51 => 108 | 20 => 20 | 213 => 156 | 232 => 160 | 233 => 161 | 80 => 118 | n => n, fun | 15 => 1 | 16 => 2 | 17 => 5 | 18 => 6 | 19 => 7 | n => n⟩
theorem Tryd.lays172 : Go.Proofs.Lays.n172 Tryd.prog Tryd.lays172_ren := {
  mixed := by kernel_rfl
  f129 := Tryd.func95.trans (congrArg some (by kernel_rfl))
  f171 := Tryd.func55.trans (congrArg some (by kernel_rfl))
  f172 := Tryd.func53.trans (congrArg some (by kernel_rfl))
  f205 := Tryd.func85.trans (congrArg some (by kernel_rfl))
  f243 := Tryd.func66.trans (congrArg some (by kernel_rfl))
  f244 := Tryd.func63.trans (congrArg some (by kernel_rfl))
  f245 := Tryd.func64.trans (congrArg some (by kernel_rfl))
  f246 := Tryd.func79.trans (congrArg some (by kernel_rfl))
  f247 := Tryd.func73.trans (congrArg some (by kernel_rfl))
  f279 := Tryd.func74.trans (congrArg some (by kernel_rfl))
  f280 := Tryd.func75.trans (congrArg some (by kernel_rfl))
  f281 := Tryd.func76.trans (congrArg some (by kernel_rfl))
  f282 := Tryd.func77.trans (congrArg some (by kernel_rfl))
  f283 := Tryd.func86.trans (congrArg some (by kernel_rfl))
  f284 := Tryd.func87.trans (congrArg some (by kernel_rfl))
  f285 := Tryd.func88.trans (congrArg some (by kernel_rfl))
  f286 := Tryd.func89.trans (congrArg some (by kernel_rfl))
  f287 := Tryd.func83.trans (congrArg some (by kernel_rfl))
  f316 := Tryd.func84.trans (congrArg some (by kernel_rfl))
  f317 := Tryd.func94.trans (congrArg some (by kernel_rfl))
  f318 := Tryd.func96.trans (congrArg some (by kernel_rfl))
  f319 := Tryd.func97.trans (congrArg some (by kernel_rfl))
  f320 := Tryd.func98.trans (congrArg some (by kernel_rfl))
  f321 := Tryd.func92.trans (congrArg some (by kernel_rfl))
  f322 := Tryd.func93.trans (congrArg some (by kernel_rfl))
  f337 := Tryd.func99.trans (congrArg some (by kernel_rfl))
  f338 := Tryd.func100.trans (congrArg some (by kernel_rfl))
  t0 := Tryd.underlying0
  a0 := Tryd.isAgg0
  z0 := Tryd.sizeOf0
  v0 := Tryd.zeroValue0
  t2 := Tryd.underlying2
  a2 := Tryd.isAgg2
  z2 := Tryd.sizeOf2
  v2 := Tryd.zeroValue2
  t3 := Tryd.underlying3
  a3 := Tryd.isAgg3
  z3 := Tryd.sizeOf3
  v3 := Tryd.zeroValue3
  t4 := Tryd.underlying4
  a4 := Tryd.isAgg4
  z4 := Tryd.sizeOf4
  v4 := Tryd.zeroValue4
  t5 := Tryd.underlying5
  a5 := Tryd.isAgg5
  z5 := Tryd.sizeOf5
  v5 := Tryd.zeroValue5
  t9 := Tryd.underlying9
  a9 := Tryd.isAgg9
  z9 := Tryd.sizeOf9
  v9 := Tryd.zeroValue9
  t20 := Tryd.underlying20
  a20 := Tryd.isAgg20
  z20 := Tryd.sizeOf20
  v20 := Tryd.zeroValue20
  t21 := Tryd.underlying21
  a21 := Tryd.isAgg21
  z21 := Tryd.sizeOf21
  v21 := Tryd.zeroValue21
  t37 := Tryd.underlying114
  a37 := Tryd.isAgg114
  z37 := Tryd.sizeOf114
  v37 := Tryd.zeroValue114
  t46 := Tryd.underlying98
  a46 := Tryd.isAgg98
  z46 := Tryd.sizeOf98
  v46 := Tryd.zeroValue98
  t51 := Tryd.underlying108
  a51 := Tryd.isAgg108
  z51 := Tryd.sizeOf108
  v51 := Tryd.zeroValue108
  t53 := Tryd.underlying130
  a53 := Tryd.isAgg130
  z53 := Tryd.sizeOf130
  v53 := Tryd.zeroValue130
  t75 := Tryd.underlying101
  a75 := Tryd.isAgg101
  z75 := Tryd.sizeOf101
  v75 := Tryd.zeroValue101
  t76 := Tryd.underlying102
  a76 := Tryd.isAgg102
  z76 := Tryd.sizeOf102
  v76 := Tryd.zeroValue102
  t85 := Tryd.underlying122
  a85 := Tryd.isAgg122
  z85 := Tryd.sizeOf122
  v85 := Tryd.zeroValue122
  t127 := Tryd.underlying129
  a127 := Tryd.isAgg129
  z127 := Tryd.sizeOf129
  v127 := Tryd.zeroValue129
  t143 := Tryd.underlying151
  a143 := Tryd.isAgg151
  z143 := Tryd.sizeOf151
  v143 := Tryd.zeroValue151
  t145 := Tryd.underlying153
  a145 := Tryd.isAgg153
  z145 := Tryd.sizeOf153
  v145 := Tryd.zeroValue153
  t167 := Tryd.underlying121
  a167 := Tryd.isAgg121
  z167 := Tryd.sizeOf121
  v167 := Tryd.zeroValue121
  t168 := Tryd.underlying124
  a168 := Tryd.isAgg124
  z168 := Tryd.sizeOf124
  v168 := Tryd.zeroValue124
  t171 := Tryd.underlying137
  a171 := Tryd.isAgg137
  z171 := Tryd.sizeOf137
  v171 := Tryd.zeroValue137
  t173 := Tryd.underlying140
  a173 := Tryd.isAgg140
  z173 := Tryd.sizeOf140
  v173 := Tryd.zeroValue140
  t175 := Tryd.underlying131
  a175 := Tryd.isAgg131
  z175 := Tryd.sizeOf131
  v175 := Tryd.zeroValue131
  t210 := Tryd.underlying135
  a210 := Tryd.isAgg135
  z210 := Tryd.sizeOf135
  v210 := Tryd.zeroValue135
  t212 := Tryd.underlying155
  a212 := Tryd.isAgg155
  z212 := Tryd.sizeOf155
  v212 := Tryd.zeroValue155
  t213 := Tryd.underlying156
  a213 := Tryd.isAgg156
  z213 := Tryd.sizeOf156
  t232 := Tryd.underlying160
  a232 := Tryd.isAgg160
  z232 := Tryd.sizeOf160
  v232 := Tryd.zeroValue160
  t233 := Tryd.underlying161
  a233 := Tryd.isAgg161
  z233 := Tryd.sizeOf161
  v233 := Tryd.zeroValue161
  g15 := by kernel_rfl
  g16 := by kernel_rfl
  g17 := by kernel_rfl
  g18 := by kernel_rfl
  g19 := by kernel_rfl }
open Go.RowKit in
theorem Tryd.strconv_Atoi (s : ByteArray) (n : Int) (hl : s.size ≤ 18) (h : Lib.atoi s.data.toList = some n) (w : World) :
    Calls Tryd.prog 53 #[.string s] w fun e w' => e = .returned (.tuple #[.int .i64 n, .nilIface]) ∧ ∃ t, w' = Lib.bytesWorld w 5 t := Any.strconv_Atoi Tryd.lays172 s n hl h w
def Tryd.lays171_ren : Go.Shelf.Ren := ⟨fun | 171 => 55 | 243 => 66 | 246 => 79 | 283 => 86 | 284 => 87 | 285 => 88 | 286 => 89 | 129 => 95 | 317 => 94 | 318 => 96 | 319 => 97 | 320 => 98 | 337 => 99 | 338 => 100 | n => n, fun | 3 => 3 | 9 => 9 | 2 => 2 | 4 => 4 | 171 => 137 | 0 => 0 | 53 => 130 | 37 => 114 | 5 => 5 | 173 => 140 | 212 => 155 | 51 => 108 | 20 => 20 | 213 => 156 | 46 => 98 | 232 => 160 | 233 => 161 | n => n, fun | 17 => 5 | 18 => 6 | 19 => 7 | n => n⟩
theorem Tryd.lays171 : Go.Proofs.Lays.n171 Tryd.prog Tryd.lays171_ren := {
  mixed := by kernel_rfl
  f129 := Tryd.func95.trans (congrArg some (by kernel_rfl))
  f171 := Tryd.func55.trans (congrArg some (by kernel_rfl))
  f243 := Tryd.func66.trans (congrArg some (by kernel_rfl))
  f246 := Tryd.func79.trans (congrArg some (by kernel_rfl))
  f283 := Tryd.func86.trans (congrArg some (by kernel_rfl))
  f284 := Tryd.func87.trans (congrArg some (by kernel_rfl))
  f285 := Tryd.func88.trans (congrArg some (by kernel_rfl))
  f286 := Tryd.func89.trans (congrArg some (by kernel_rfl))
  f317 := Tryd.func94.trans (congrArg some (by kernel_rfl))
  f318 := Tryd.func96.trans (congrArg some (by kernel_rfl))
  f319 := Tryd.func97.trans (congrArg some (by kernel_rfl))
  f320 := Tryd.func98.trans (congrArg some (by kernel_rfl))
  f337 := Tryd.func99.trans (congrArg some (by kernel_rfl))
  f338 := Tryd.func100.trans (congrArg some (by kernel_rfl))
  t0 := Tryd.underlying0
  a0 := Tryd.isAgg0
  z0 := Tryd.sizeOf0
  v0 := Tryd.zeroValue0
  t2 := Tryd.underlying2
  a2 := Tryd.isAgg2
  z2 := Tryd.sizeOf2
  v2 := Tryd.zeroValue2
  t3 := Tryd.underlying3
  a3 := Tryd.isAgg3
  z3 := Tryd.sizeOf3
  v3 := Tryd.zeroValue3
  t4 := Tryd.underlying4
  a4 := Tryd.isAgg4
  z4 := Tryd.sizeOf4
  v4 := Tryd.zeroValue4
  t5 := Tryd.underlying5
  a5 := Tryd.isAgg5
  z5 := Tryd.sizeOf5
  v5 := Tryd.zeroValue5
  t9 := Tryd.underlying9
  a9 := Tryd.isAgg9
  z9 := Tryd.sizeOf9
  v9 := Tryd.zeroValue9
  t20 := Tryd.underlying20
  a20 := Tryd.isAgg20
  z20 := Tryd.sizeOf20
  v20 := Tryd.zeroValue20
  t37 := Tryd.underlying114
  a37 := Tryd.isAgg114
  z37 := Tryd.sizeOf114
  v37 := Tryd.zeroValue114
  t46 := Tryd.underlying98
  a46 := Tryd.isAgg98
  z46 := Tryd.sizeOf98
  v46 := Tryd.zeroValue98
  t51 := Tryd.underlying108
  a51 := Tryd.isAgg108
  z51 := Tryd.sizeOf108
  v51 := Tryd.zeroValue108
  t53 := Tryd.underlying130
  a53 := Tryd.isAgg130
  z53 := Tryd.sizeOf130
  v53 := Tryd.zeroValue130
  t171 := Tryd.underlying137
  a171 := Tryd.isAgg137
  z171 := Tryd.sizeOf137
  v171 := Tryd.zeroValue137
  t173 := Tryd.underlying140
  a173 := Tryd.isAgg140
  z173 := Tryd.sizeOf140
  v173 := Tryd.zeroValue140
  t212 := Tryd.underlying155
  a212 := Tryd.isAgg155
  z212 := Tryd.sizeOf155
  v212 := Tryd.zeroValue155
  t213 := Tryd.underlying156
  a213 := Tryd.isAgg156
  z213 := Tryd.sizeOf156
  t232 := Tryd.underlying160
  a232 := Tryd.isAgg160
  z232 := Tryd.sizeOf160
  v232 := Tryd.zeroValue160
  t233 := Tryd.underlying161
  a233 := Tryd.isAgg161
  z233 := Tryd.sizeOf161
  v233 := Tryd.zeroValue161
  g17 := by kernel_rfl
  g18 := by kernel_rfl
  g19 := by kernel_rfl }
open Go.RowKit Go.Sort Go.Lib in
theorem Tryd.strconv_Itoa_small (i : Nat) (hi : i < 100) (w : World) :
    Calls Tryd.prog 55 #[.int .i64 i] w fun e w' => e = .returned (.string ⟨(Lib.decDigits i).toArray⟩) ∧ w' = w := Any.strconv_Itoa_small Tryd.lays171 i hi w
end Go.Proofs

/- Numbers read and written; texts joined (the kit's shelf). -/
namespace Go.Proofs.YtohiagaclfaolaaDoor.Tx
open Go.Proofs.YtohiagaclfaolaaDoor
open Go Go.Fw
set_option maxRecDepth 20000
/-- A function whose call returns a value and leaves more blocks at most. -/
theorem pc_below {P : Program} {f : FuncId} {args : List AV} {v : Value} (h : ∀ (C : Nat → Nat → Option Value) (w : World) (vs : List Value), RL C args vs → (∀ k o u, C k o = some u → w.cell? ⟨k, o, none⟩ = some u) → Calls P f vs.toArray w fun e w' => e = .returned v ∧ RowKit.Below w.heap.size w w') : PC P f args (.lit v) := by
  intro C w vs hl hin
  refine (h C w vs hl hin.1).mono ?_
  rintro e w' ⟨rfl, hb⟩
  have hm := More.of_below hb
  exact ⟨v, C, rfl, CLe.refl _, .lit _, ⟨fun k o u hu => hm.cell (hin.1 k o u hu), hin.2⟩, hm, fun _ _ _ => rfl⟩
theorem lit1 {C : Nat → Nat → Option Value} {a : Value} {vs : List Value} (h : RL C [.lit a] vs) : vs = [a] := by
  obtain ⟨h1, h2⟩ := h
  match vs, h1 with
  | [x], _ => have h := h2 0 (by simp); simp only [List.getD_cons_zero] at h; cases h; rfl
theorem below_refl (w : World) : RowKit.Below w.heap.size w w := More.below (More.refl w)
theorem atoi_pc {s : ByteArray} {n : Int} (hl : s.size ≤ 18) (h : Lib.atoi s.data.toList = some n) : PC Tryd.prog 53 [.lit (.string s)] (.lit (.tuple #[.int .i64 n, .nilIface])) := by
  refine pc_below fun C w vs hv _ => ?_
  rw [lit1 hv]
  refine (Tryd.strconv_Atoi s n hl h w).mono ?_
  rintro e w' ⟨rfl, t, rfl⟩
  exact ⟨rfl, rfl, rfl, rfl, by rw [Lib.bytesWorld_size]; omega, fun j hj => Lib.bytesWorld_at_old w 5 t j hj⟩
theorem itoa_pc {i : Nat} (hi : i < 100) : PC Tryd.prog 55 [.lit (.int .i64 i)] (.lit (.string (bs (Lib.decDigits i)))) := by
  refine pc_below fun C w vs hv _ => ?_
  rw [lit1 hv]
  refine (Tryd.strconv_Itoa_small i hi w).mono ?_
  rintro e w' ⟨rfl, rfl⟩
  exact ⟨rfl, below_refl w'⟩
theorem join_pc {xs : List (List UInt8)} {sep : List UInt8} (hx : xs.length ≤ 1000000) (hl : (Lib.join xs sep).length ≤ 1000000) : PC Tryd.prog 56 [.sl false 1 (txs xs), .lit (.string (bs sep))] (.lit (.string (bs (Lib.join xs sep)))) := by
  refine pc_below fun C w vs hv hin => ?_
  obtain ⟨h1, h2⟩ := hv
  match vs, h1 with
  | [a, b], _ =>
    have ha : RC C (.sl false 1 (txs xs)) a := h2 0 (by simp)
    have hb : RC C (.lit (.string (bs sep))) b := h2 1 (by simp)
    have eb : b = .string (bs sep) := by
      generalize b = b at hb
      cases hb; rfl
    subst eb
    generalize hX : txs xs = X at ha
    cases ha with
    | nil full sz p =>
      have : xs = [] := by
        cases xs with
        | nil => rfl
        | cons x l => cases hX
      subst this
      refine (Tryd.strings_Join_none p 0 (bs sep) w).mono ?_
      rintro e w' ⟨rfl, rfl⟩
      exact ⟨rfl, below_refl w'⟩
    | sl full sz X b off cap f hc hm hf hw hC h1' hR =>
      subst hX
      have hfl : flat (txs xs) = txs xs := flat_lits (fun w => .string (bs w)) xs
      have hlen : (txs xs).length = xs.length := txs_length xs
      rw [hfl, hlen] at hC hR h1'
      have hcell : ∀ (j : Nat) (x : ByteArray), (xs.map bs)[j]? = some x → w.cell? ⟨b, off + j, none⟩ = some (.string x) := fun j x hj => by
        have hj2 : j < xs.length := by have := (List.getElem?_eq_some_iff.1 hj).1; simpa using this
        have hr := hR j hj2
        have e : (txs xs).getD j .top = .lit (.string x) := by
          simp only [List.getElem?_map] at hj
          simp only [txs, List.getD_eq_getElem?_getD, List.getElem?_map]
          cases hq : xs[j]? with
          | none => rw [hq] at hj; cases hj
          | some y => rw [hq] at hj; cases hj; rfl
        rw [e] at hr
        have hv : f j = .string x := by
          generalize f j = v at hr
          cases hr; rfl
        rw [hin _ _ _ (hC j hj2), hv]
      by_cases h0 : xs.length = 0
      · have hx0 : xs = [] := List.length_eq_zero_iff.1 h0
        subst hx0
        refine (Tryd.strings_Join_none _ cap (bs sep) w).mono ?_
        rintro e w' ⟨rfl, rfl⟩
        exact ⟨rfl, below_refl w'⟩
      · have hb : b < w.heap.size := by
          have h := hC 0 (by omega)
          exact World.block_lt_of_cell? w _ (hin _ _ _ h)
        have hmap : (xs.map bs).map (fun x : ByteArray => x.data.toList) = xs := by simp [List.map_map, Function.comp_def, data_bs]
        have hj := Tryd.strings_Join b off cap (xs.map bs) (bs sep) w hcell hb (by rw [List.length_map]; omega) (by rw [List.length_map, ← hlen]; exact hc) (by rw [hmap, data_bs]; omega)
        rw [hmap, data_bs, List.length_map, ← hlen] at hj
        exact hj.mono fun e w' h => h
end Go.Proofs.YtohiagaclfaolaaDoor.Tx

/- Numbers of operands; the form with a name. -/
namespace Go.Proofs.YtohiagaclfaolaaDoor.Tx
open Go.Proofs.YtohiagaclfaolaaDoor
open Go Go.Fw
set_option maxRecDepth 20000
theorem pc_tup2 {P : Program} {f : FuncId} {args : List AV} {a b : Value} (h : PC P f args (.lit (.tuple #[a, b]))) : PC P f args (.tup [.lit a, .lit b]) := by
  intro C w vs hl hin
  refine (h C w vs hl hin).mono ?_
  rintro e w' ⟨v, C', rfl, h1, h2, h3⟩
  refine ⟨v, C', rfl, h1, ?_, h3⟩
  have e1 : v = .tuple #[a, b] := by generalize hz : (AV.lit (Value.tuple #[a, b])) = z at h2; cases h2 <;> first | (cases hz; rfl) | cases hz
  subst e1
  refine RC.tup [.lit a, .lit b] [a, b] rfl fun i hi => ?_
  match i, hi with
  | 0, _ => exact .lit _
  | 1, _ => exact .lit _
noncomputable def con53 : PCon Tryd.prog where
  f := 53
  c := fun
    | [.lit (.string s)] => match Lib.atoi (ul s) with
      | some n => some ((ul s).length ≤ 18, .tup [.lit (.int .i64 n), .lit .nilIface])
      | none => none
    | _ => none
  ok := by
    intro args p r hc hp
    split at hc
    · rename_i s
      split at hc
      · rename_i n hn
        cases hc
        refine pc_tup2 (atoi_pc ?_ hn)
        have : s.size = (ul s).length := (Array.length_toList).symm
        omega
      · cases hc
    · cases hc
  fk := fk53
theorem con53_f : con53.f = 53 := rfl
theorem con53_c {l : List UInt8} : con53.c [.lit (.string (bs l))] = match Lib.atoi l with
      | some n => some (l.length ≤ 18, .tup [.lit (.int .i64 n), .lit .nilIface])
      | none => none := by
  show (match Lib.atoi (ul (bs l)) with
      | some n => some ((ul (bs l)).length ≤ 18, AV.tup [.lit (.int .i64 n), .lit .nilIface])
      | none => none) = _
  rw [ul_bs]
attribute [go_sem] con53_f con53_c
noncomputable def Z0 : Env := envJ (P := Tryd.prog) jkT zer (fun _ => false) (fun _ => false) [con53, con54] []
theorem Z0_ok : EnvOk Tryd.prog Z0 := envJOk zer_ok
theorem integer_pc {l : List UInt8} {n : Int} (h : Lib.atoi (trimP [114] l) = some n) (hl : (trimP [114] l).length ≤ 18) : PC Tryd.prog 45 [.lit (.string (bs l))] (.lit (.int .i64 n)) := by
  refine pcR Z0_ok (kp45) Tryd.func45 [.tmp 2] (h := fun KF => ?_)
  unfold Z0
  repeat' (first
   | (with_reducible first | refine t_seq fun K => ?_ | refine nx ?_ | refine t_br (fun hc => ?_) fun hc => ?_) | exact kpd
   | ((with_reducible first | refine ny ?_ | refine t_kLF ?_ ?_ | refine t_region fun K => ?_ | refine t_cond fun A B => ?_ | refine t_dw (h := fun K => ?_)); (try (refine nh ?_; intro KL)); simp only [go_sem, geff, kp45, h, yes])
   | simp only [thenQ, blockQ, scopeQ, Nat.reduceEqDiff, reduceIte] | (with_reducible first | refine And.intro ?_ ?_ | intro vr))
  all_goals try exact nd
  all_goals ((first | refine end_retE ?_ | refine end_normE ?_); simp only [fin, go_sem])
  exact LeA.refl _
noncomputable def con45 : PCon Tryd.prog where
  f := 45
  c := fun
    | [.lit (.string s)] => match Lib.atoi (trimP [114] (ul s)) with
      | some n => some ((trimP [114] (ul s)).length ≤ 18, .lit (.int .i64 n))
      | none => none
    | _ => none
  ok := by
    intro args p r hc hp
    split at hc
    · rename_i s
      split at hc
      · rename_i n hn
        cases hc
        obtain ⟨l, rfl⟩ := bs_ex s
        rw [ul_bs] at hn hp
        exact integer_pc hn hp
      · cases hc
    · cases hc
  fk := fk45
theorem con45_f : con45.f = 45 := rfl
theorem con45_c {l : List UInt8} : con45.c [.lit (.string (bs l))] = match Lib.atoi (trimP [114] l) with
      | some n => some ((trimP [114] l).length ≤ 18, .lit (.int .i64 n))
      | none => none := by
  show (match Lib.atoi (trimP [114] (ul (bs l))) with
      | some n => some ((trimP [114] (ul (bs l))).length ≤ 18, AV.lit (.int .i64 n))
      | none => none) = _
  rw [ul_bs]
attribute [go_sem] con45_f con45_c
/-! The form with a name. -/
theorem txs_hd (w : List UInt8) (l : List (List UInt8)) : (txs (w :: l)).getD 0 (.lit (.string (bs []))) = .lit (.string (bs w)) := rfl
noncomputable def Z1 : Env := envJ (P := Tryd.prog) jkT zer (fun _ => false) (fun _ => false) [] []
theorem Z1_ok : EnvOk Tryd.prog Z1 := envJOk zer_ok
theorem named_ec {b0 : AObj} {n : ByteArray} {a b c : AV} {fl : Bool} {w : List UInt8} {ws : List (List UInt8)} {b2 : AObj} {k : AV → List AObj → Prop} (hs : (AV.agg [.lit (.string n), a, b, c]).solid = true)
    (hc : (AV.agg [.lit (.string n), a, b, c]).cells = [.lit (.string n), a, b, c])
    (hk : k (.lit (.bool (eqS n (bs w)))) [b0, .box 69 [.sl fl 1 (txs (w :: ws))], b2]) :
    EC Tryd.prog 44 [.agg [.lit (.string n), a, b, c], .ref 1 0] [b0, .box 69 [.sl fl 1 (txs (w :: ws))], b2] k := by
  refine ec_fin fun hbd => ?_
  refine ecR Z1_ok (kp44) Tryd.func44 [.tmp 3] (h := fun KF => ?_)
  unfold Z1
  repeat' (first
   | (with_reducible first | refine t_seq fun K => ?_ | refine nx ?_ | refine t_br (fun hc => ?_) fun hc => ?_) | exact kpd
   | ((with_reducible first | refine ny ?_ | refine t_kLF ?_ ?_ | refine t_region fun K => ?_ | refine t_cond fun A B => ?_ | refine t_dw (h := fun K => ?_)); (try (refine nh ?_; intro KL)); simp only [go_sem, geff, kp44, hs, hc, txs_hd, txs_length, List.length_cons, yes])
   | simp only [thenQ, blockQ, scopeQ, Nat.reduceEqDiff, reduceIte] | (with_reducible first | refine And.intro ?_ ?_ | intro vr))
  all_goals try exact nd
  all_goals ((first | refine end_retE ?_ | refine end_normE ?_); simp only [fin, go_sem, finE])
  exact ⟨_, _, rfl, LeA.refl _, hbd, hk⟩
end Go.Proofs.YtohiagaclfaolaaDoor.Tx

/- The code of a name: the forms' list looked through. -/
namespace Go.Proofs.YtohiagaclfaolaaDoor.Tx
open Go.Proofs.YtohiagaclfaolaaDoor
open Go Go.Fw
set_option maxRecDepth 20000
/-- What is known of the forms' cells. -/
structure FormsC (cs : List AV) (nm : Nat → ByteArray) (A C : Nat → AV) (B : Nat → Bool) : Prop where
  hA : ∀ i, i < 16 → (∃ p, A i = .sl true 1 p) ∨ A i = .lit (.slice none 0 0)
  hC : ∀ i, i < 16 → (∃ p, C i = .sl true 1 p) ∨ C i = .lit (.slice none 0 0)
  len : cs.length = 64
  at_ : ∀ i, i < 16 → (cs.drop (i * 4)).take 4 = [.lit (.string (nm i)), A i, .lit (.bool (B i)), C i]
  sol : ∀ i, i < 16 → (AV.agg [.lit (.string (nm i)), A i, .lit (.bool (B i)), C i]).solid = true
  cel : ∀ i, i < 16 → (AV.agg [.lit (.string (nm i)), A i, .lit (.bool (B i)), C i]).cells = [.lit (.string (nm i)), A i, .lit (.bool (B i)), C i]
noncomputable def ecn44 : ECon Tryd.prog where
  f := 44
  c := fun args σ k => match args, σ with
    | [.agg [.lit (.string n), a, b, c], .ref 1 0], [b0, .box 69 [.sl fl 1 l], b2] => match l with
      | .lit (.string w) :: l' => ∃ ws, l' = txs ws ∧ (AV.agg [.lit (.string n), a, b, c]).solid = true ∧ (AV.agg [.lit (.string n), a, b, c]).cells = [.lit (.string n), a, b, c] ∧ k (.lit (.bool (eqS n w))) [b0, .box 69 [.sl fl 1 l], b2]
      | _ => False
    | _, _ => False
  ok := by
    intro args σ k h
    split at h
    · split at h
      · rename_i w l'
        obtain ⟨ws, rfl, h1, h2, h3⟩ := h
        obtain ⟨w, rfl⟩ := bs_ex w
        exact named_ec (ws := ws) h1 h2 h3
      · exact h.elim
    · exact h.elim
  fk := fk44
theorem ecn44_f : ecn44.f = 44 := rfl
theorem ecn44_c {n : ByteArray} {a b c : AV} {fl : Bool} {b0 b2 : AObj} {w : List UInt8} {ws : List (List UInt8)} {k : AV → List AObj → Prop} : ecn44.c [.agg [.lit (.string n), a, b, c], .ref 1 0] [b0, .box 69 [.sl fl 1 (txs (w :: ws))], b2] k =
    (∃ us, txs ws = txs us ∧ (AV.agg [.lit (.string n), a, b, c]).solid = true ∧ (AV.agg [.lit (.string n), a, b, c]).cells = [.lit (.string n), a, b, c] ∧ k (.lit (.bool (eqS n (bs w)))) [b0, .box 69 [.sl fl 1 (txs (w :: ws))], b2]) := rfl
theorem ex_txs {ws : List (List UInt8)} {p q r : Prop} : (∃ us, txs ws = txs us ∧ p ∧ q ∧ r) = (p ∧ q ∧ r) := by
  apply propext
  exact ⟨fun ⟨_, _, h⟩ => h, fun h => ⟨ws, rfl, h⟩⟩
theorem ex_txs1 {ws : List (List UInt8)} {p : Prop} : (∃ us, txs ws = txs us ∧ p) = p := by
  apply propext
  exact ⟨fun ⟨_, _, h⟩ => h, fun h => ⟨ws, rfl, h⟩⟩
attribute [go_sem] ecn44_f ecn44_c ex_txs ex_txs1
noncomputable def Z2 : Env := envJ (P := Tryd.prog) jkT zer (fun _ => false) (fun _ => false) [] [ecn44]
theorem Z2_ok : EnvOk Tryd.prog Z2 := envJOk zer_ok
def idxF (nm : Nat → ByteArray) (w : List UInt8) : Nat → Nat → Int
  | 0, _ => -1
  | f + 1, i => if eqS (nm i) (bs w) = true then (i : Int) else idxF nm w f (i + 1)
set_option maxHeartbeats 1000000 in
theorem idxf_ec {cs : List AV} {nm : Nat → ByteArray} {A C : Nat → AV} {B : Nat → Bool} (hf : FormsC cs nm A C B) {b0 : AObj} {fl : Bool} {w : List UInt8} {ws : List (List UInt8)} {t : TypeId} {k : AV → List AObj → Prop}
    (hk : k (.lit (.int .i64 (idxF nm w 16 0))) [b0, .box 69 [.sl fl 1 (txs (w :: ws))], .box t cs]) :
    EC Tryd.prog 43 [.bsl 2 16, .fn (.func 44) [] [.ref 1 0]] [b0, .box 69 [.sl fl 1 (txs (w :: ws))], .box t cs] k := by
  generalize hR : idxF nm w 16 0 = R at hk
  have h64 := hf.len
  refine ecR Z2_ok (kp43) Tryd.func43 [.tmp 4] (h := fun KF => ?_)
  unfold Z2
  repeat' (first
   | (with_reducible first | refine t_seq fun K => ?_ | refine nx ?_ | refine t_br (fun hc => ?_) fun hc => ?_) | exact kpd
   | ((with_reducible first | refine ny ?_ | refine t_kLF ?_ ?_ | refine t_region fun K => ?_ | refine t_cond fun A B => ?_ | refine t_dw (h := fun K => ?_)); (try (refine nh ?_; intro KL)); simp only [go_sem, geff, kp43])
   | simp only [thenQ, blockQ, scopeQ, Nat.reduceEqDiff, reduceIte] | (with_reducible first | refine And.intro ?_ ?_ | intro vr))
  all_goals try exact nd
  refine t_loopF (ι := { i : Nat // i ≤ 16 ∧ idxF nm w (16 - i) i = R }) (fun i => [(8, .lit (.int .i64 i.1))]) (fun i => [b0, .box 69 [.sl fl 1 (txs (w :: ws))], .box t cs]) (fun i => 16 - i.1) ⟨0, by omega, hR⟩ ?_ ?_
  · simp only [updL_nil, updL_cons, delF_top, delF_upd, Nat.reduceEqDiff, reduceIte]
    refine Le.frameS (by first | rfl | (simp only [go_sem]; try rfl)) ?_
    repeat' (first | exact leF_top _ | exact (fun _ => LeR.refl _) | (with_reducible refine leF_sl ?_ ?_) | (refine leF_upd ?_ ?_))
    all_goals (first | exact LeR.top _ | exact LeR.refl _ | (refine LeR.of_eq ?_; (try simp only [go_sem]); try rfl) | ((try simp only [go_sem]); try rfl))
  rintro ⟨i, hi, hF⟩ K0
  rcases Nat.lt_or_ge i 16 with hc | hc
  · have g3 : decide ((i : Int) < ((16 : Nat) : Int)) = true := decide_eq_true (by omega)
    have g4 : i * 4 + 4 ≤ cs.length := by omega
    have ha := hf.at_ i hc
    have hs := hf.sol i hc
    have hl := hf.cel i hc
    rw [show 16 - i = (15 - i) + 1 by omega, idxF] at hF
    have hlt : (i : Int) < 16 := by omega
    generalize B i = bi at ha hs hl
    rcases hf.hA i hc with ⟨p, e1⟩ | e1 <;> rcases hf.hC i hc with ⟨q, e2⟩ | e2
    all_goals
      rw [e1, e2] at ha hs hl
      cases h4 : eqS (nm i) (bs w) with
      | true =>
        rw [if_pos h4] at hF
        repeat' (first
         | (with_reducible first | refine t_seq fun K => ?_ | refine nx ?_ | refine t_br (fun hc => ?_) fun hc => ?_) | exact kpd
         | ((with_reducible first | refine ny ?_ | refine t_kLF ?_ ?_ | refine t_region fun K => ?_ | refine t_cond fun A B => ?_ | refine t_dw (h := fun K => ?_)); (try (refine nh ?_; intro KL)); simp only [go_sem, geff, kp43, g3, hlt, g4, ha, hs, hl, h4, Int.toNat_natCast, yes])
         | simp only [thenQ, blockQ, scopeQ, Nat.reduceEqDiff, reduceIte] | (with_reducible first | refine And.intro ?_ ?_ | intro vr))
        all_goals try exact nd
        all_goals ((first | refine end_retE ?_ | refine end_normE ?_); simp only [fin, go_sem])
        rw [hF]; exact hk
      | false =>
        rw [if_neg (by rw [h4]; decide)] at hF
        repeat' (first
         | (with_reducible first | refine t_seq fun K => ?_ | refine nx ?_ | refine t_br (fun hc => ?_) fun hc => ?_) | exact kpd
         | ((with_reducible first | refine ny ?_ | refine t_kLF ?_ ?_ | refine t_region fun K => ?_ | refine t_cond fun A B => ?_ | refine t_dw (h := fun K => ?_)); (try (refine nh ?_; intro KL)); simp only [go_sem, geff, kp43, g3, hlt, g4, ha, hs, hl, h4, Int.toNat_natCast, yes])
         | simp only [thenQ, blockQ, scopeQ, Nat.reduceEqDiff, reduceIte] | (with_reducible first | refine And.intro ?_ ?_ | intro vr))
        all_goals try exact nd
        refine ⟨⟨i + 1, by omega, by rw [← hF]; congr 1; omega⟩, by first | (simp only; omega) | omega, ?_⟩
        simp only [updL_nil, updL_cons, delF_top, delF_upd, Nat.reduceEqDiff, reduceIte]
        refine Le.frameS (by first | rfl | (simp only [go_sem]; try rfl)) ?_
        repeat' (first | exact leF_top _ | exact (fun _ => LeR.refl _) | (with_reducible refine leF_sl ?_ ?_) | (refine leF_upd ?_ ?_))
        all_goals (first | exact LeR.top _ | exact LeR.refl _ | (refine LeR.of_eq ?_; (try simp only [go_sem]); try rfl) | ((try simp only [go_sem]); try rfl))
  · have g3 : decide ((i : Int) < ((16 : Nat) : Int)) = false := decide_eq_false (by omega)
    rw [show 16 - i = 0 by omega, idxF] at hF
    repeat' (first
     | (with_reducible first | refine t_seq fun K => ?_ | refine nx ?_ | refine t_br (fun hc => ?_) fun hc => ?_) | exact kpd
     | ((with_reducible first | refine ny ?_ | refine t_kLF ?_ ?_ | refine t_region fun K => ?_ | refine t_cond fun A B => ?_ | refine t_dw (h := fun K => ?_)); (try (refine nh ?_; intro KL)); simp only [go_sem, geff, kp43, g3])
     | simp only [thenQ, blockQ, scopeQ, Nat.reduceEqDiff, reduceIte] | (with_reducible first | refine And.intro ?_ ?_ | intro vr))
    all_goals try exact nd
    all_goals ((first | refine end_retE ?_ | refine end_normE ?_); simp only [fin, go_sem])
    rw [hF]; exact hk
end Go.Proofs.YtohiagaclfaolaaDoor.Tx

/- The line of an instruction: the program's. -/
namespace Go.Proofs.YtohiagaclfaolaaDoor.Tx
open Go.Proofs.YtohiagaclfaolaaDoor
open Go Go.Fw Bm
set_option maxRecDepth 20000
def opW (k n : Int) : List UInt8 := (if k = 0 then [114] else []) ++ Lib.itoa n
def opI (x : Ins) (i : Nat) : Int := [x.a, x.b, x.c, x.d].getD i 0
def headW (x : Ins) : List (List UInt8) := ul (namL x.code) :: (if x.code = 5 then [ul x.prim] else [])
def restW (x : Ins) (j : Nat) : List (List UInt8) := (List.range j).map fun i => opW ((kndS x).getD i 0) (opI x i)
def wordsB (x : Ins) : List (List UInt8) := headW x ++ restW x (kndS x).length
def lineB (x : Ins) : List UInt8 := Lib.join (wordsB x) [32]
theorem restW_succ (x : Ins) (i : Nat) : restW x i ++ [opW ((kndS x).getD i 0) (opI x i)] = restW x (i + 1) := by simp [restW, List.range_succ]
theorem bs_ul (s : ByteArray) : bs (ul s) = s := bs_data s
noncomputable def con55 : PCon Tryd.prog where
  f := 55
  c := fun
    | [.lit (.int .i64 n)] => some (0 ≤ n ∧ n < 100, .lit (.string (bs (Lib.itoa n))))
    | _ => none
  ok := by
    intro args p r hc hp
    split at hc
    · rename_i n
      cases hc
      obtain ⟨h0, h1⟩ := hp
      obtain ⟨i, rfl⟩ : ∃ i : Nat, n = i := ⟨n.toNat, by omega⟩
      have e : Lib.itoa (i : Int) = Lib.decDigits i := by
        unfold Lib.itoa
        rw [if_neg (by omega), Int.toNat_natCast]
      rw [e]
      exact itoa_pc (by omega)
    · cases hc
  fk := fk55
theorem con55_f : con55.f = 55 := rfl
theorem con55_c {n : Int} : con55.c [.lit (.int .i64 n)] = some (0 ≤ n ∧ n < 100, .lit (.string (bs (Lib.itoa n)))) := rfl
def unT : List AV → Option (List (List UInt8))
  | [] => some []
  | .lit (.string s) :: l => (unT l).map fun m => ul s :: m
  | _ :: _ => none
theorem unT_txs : ∀ l : List (List UInt8), unT (txs l) = some l
  | [] => rfl
  | w :: l => by
    show (unT (txs l)).map (fun m => ul (bs w) :: m) = _
    rw [unT_txs l, ul_bs]; rfl
theorem unT_inv : ∀ {xs : List AV} {l : List (List UInt8)}, unT xs = some l → xs = txs l
  | [], l, h => by cases h; rfl
  | .lit (.string s) :: xs, l, h => by
    simp only [unT, Option.map_eq_some_iff] at h
    obtain ⟨m, h1, rfl⟩ := h
    rw [unT_inv h1]
    simp [txs, bs_ul]
noncomputable def con56 : PCon Tryd.prog where
  f := 56
  c := fun
    | [.sl _ 1 xs, .lit (.string sep)] => match unT xs with
      | some l => some (l.length ≤ 1000000 ∧ (Lib.join l (ul sep)).length ≤ 1000000, .lit (.string (bs (Lib.join l (ul sep)))))
      | none => none
    | _ => none
  ok := by
    intro args p r hc hp
    split at hc
    · rename_i xs sep
      split at hc
      · rename_i l hl
        cases hc
        rw [unT_inv hl]
        have h := join_pc (xs := l) (sep := ul sep) hp.1 hp.2
        rw [bs_ul] at h
        exact PC.weak h ⟨LeA.full _ _ _, LeA.refl _, trivial⟩
      · cases hc
    · cases hc
  fk := fk56
theorem con56_f : con56.f = 56 := rfl
theorem con56_c {b : Bool} {l : List (List UInt8)} {sep : List UInt8} : con56.c [.sl b 1 (txs l), .lit (.string (bs sep))] = some (l.length ≤ 1000000 ∧ (Lib.join l sep).length ≤ 1000000, .lit (.string (bs (Lib.join l sep)))) := by
  show (match unT (txs l) with
      | some l => some (l.length ≤ 1000000 ∧ (Lib.join l (ul (bs sep))).length ≤ 1000000, AV.lit (.string (bs (Lib.join l (ul (bs sep))))))
      | none => none) = _
  rw [unT_txs, ul_bs]
theorem con56_c32 {b : Bool} {l : List (List UInt8)} : con56.c [.sl b 1 (txs l), .lit (.string (bs [32]))] = some (l.length ≤ 1000000 ∧ (Lib.join l [32]).length ≤ 1000000, .lit (.string (bs (Lib.join l [32])))) := con56_c
theorem r_bs (l : List UInt8) : (⟨#[114]⟩ : ByteArray) ++ bs l = bs (114 :: l) := by rw [show (⟨#[114]⟩ : ByteArray) = bs [114] from rfl, bs_app]; rfl
theorem itoa_len {n : Int} (h0 : 0 ≤ n) (h1 : n < 100) : (Lib.itoa n).length ≤ 2 := by
  obtain ⟨i, rfl⟩ : ∃ i : Nat, n = i := ⟨n.toNat, by omega⟩
  have h : ∀ i < 100, (Lib.itoa ((i : Nat) : Int)).length ≤ 2 := by decide +kernel
  exact h i (by omega)
theorem txs_app1 (l : List (List UInt8)) (w : List UInt8) : txs l ++ txs [w] = txs (l ++ [w]) := by simp [txs]
attribute [go_sem] con56_c32 con55_f con55_c con56_f con56_c con19_f con19_c con20_f con20_c
noncomputable def Y0 : Env := envJ (P := Tryd.prog) jkV zer (fun _ => false) (fun _ => false) [con19, con20, con55, con56] []
theorem Y0_ok : EnvOk Tryd.prog Y0 := envJOk zer_ok
/-- What is asked of an instruction whose line is made: small numbers. -/
structure Sm (x : Ins) : Prop where
  len : (kndS x).length ≤ 4
  n : ∀ i, i < 4 → 0 ≤ opI x i ∧ opI x i < 100
  line : (lineB x).length ≤ 1000000
set_option maxHeartbeats 8000000 in
theorem line_pc {x : Ins} (h : Sm x) : PC Tryd.prog 46 [opV x] (.lit (.string (bs (lineB x)))) := by
  obtain ⟨hl4, hn, hll⟩ := h
  have hsu := restW_succ x
  have hR : Lib.join (headW x ++ restW x (kndS x).length) [32] = lineB x := rfl
  have hW : (headW x ++ restW x (kndS x).length).length ≤ 1000000 := by
    have h1 : (headW x).length ≤ 2 := by unfold headW; split <;> simp
    have h2 : (restW x (kndS x).length).length = (kndS x).length := by simp [restW]
    rw [List.length_append]; omega
  have h0 := hn 0 (by omega)
  have h1 := hn 1 (by omega)
  have h2 := hn 2 (by omega)
  have h3 := hn 3 (by omega)
  have hop : ∀ i, opI x i = [x.a, x.b, x.c, x.d].getD i 0 := fun _ => rfl
  have hh : headW x = ul (namL x.code) :: (if x.code = 5 then [ul x.prim] else []) := rfl
  obtain ⟨k, p, a, b, c, d⟩ := x
  simp only at hh hop
  have hS : shpV ⟨k, p, a, b, c, d⟩ = .tup [.agg [.lit (.string (namL k)), .sl false 1 (ints .i64 (kndS ⟨k, p, a, b, c, d⟩)), .lit (.bool (wrtB k)), .sl false 1 (ints .i64 (redS ⟨k, p, a, b, c, d⟩))], .lit (.bool (shpOk ⟨k, p, a, b, c, d⟩))] := rfl
  simp only [opV]
  generalize headW ⟨k, p, a, b, c, d⟩ = hw at *
  generalize hG : restW ⟨k, p, a, b, c, d⟩ = rW at *
  have hr0 : rW 0 = [] := by rw [← hG]; rfl
  generalize opI ⟨k, p, a, b, c, d⟩ = oI at *
  generalize kndS ⟨k, p, a, b, c, d⟩ = L at *
  generalize redS ⟨k, p, a, b, c, d⟩ = M at *
  generalize shpOk ⟨k, p, a, b, c, d⟩ = ok at *
  generalize lineB ⟨k, p, a, b, c, d⟩ = LB at *
  generalize hN : ul (namL k) = N at *
  have hrl : ∀ i, (rW i).length = i := fun i => by rw [← hG]; simp [restW]
  have hnm : namL k = bs N := by rw [← hN, bs_ul]
  obtain ⟨q, rfl⟩ := bs_ex p
  rw [ul_bs] at hh
  have hLl : (ints .i64 L).length = L.length := ints_length _ _
  have hc0 : hw = N :: (if k = 5 then [q] else []) := hh
  cases hk5 : (k == 5) with
  | true =>
    have hq5 : hw = [N, q] := by rw [hc0, if_pos (by simpa using hk5)]
    have hwl : hw.length ≤ 2 := by rw [hq5]; simp
    refine pcR Y0_ok (kp46) Tryd.func46 [.tmp 2] (h := fun KF => ?_)
    unfold Y0
    have htx : txs [N] ++ txs [q] = txs (hw ++ rW 0) := by rw [txs_app1, hr0, hq5, List.append_nil]; rfl
    repeat' (first
     | (with_reducible first | refine nx ?_ | refine t_seq fun K => ?_ | refine t_br (fun hc => ?_) fun hc => ?_ | refine t_bx ?_ | apply And.intro | intro vr)
     | ((with_reducible first | refine ny ?_ | refine t_dwh (h := fun K KL => ?_)); intros; simp only [go_sem, kp46, geff, htx, hS, hnm, hk5, List.cons_append, List.nil_append, yes]))
    all_goals try exact nd
    refine t_loopF (ι := { q : Nat × Nat // q.1 ≤ L.length }) (fun i => [(28, .lit (.int .i64 (i.1.1 : Int))), (5, .arr 2 i.1.2)]) (fun i => [.box 32 [.lit (.int .i64 k), .lit (.string (bs q)), .lit (.int .i64 a), .lit (.int .i64 b), .lit (.int .i64 c), .lit (.int .i64 d)], .box 47 [.lit (.string (bs N)), .sl false 1 (ints .i64 L), .lit (.bool (wrtB k)), .sl false 1 (ints .i64 M)], .arr 9 1 (txs (hw ++ rW i.1.1)) i.1.2 false]) (fun i => L.length - i.1.1) ⟨(0, 0), by simp⟩ ?_ ?_
    · exact lf
    rintro ⟨⟨i, v⟩, hi⟩ K0
    simp only at hi
    rcases Nat.lt_or_ge i L.length with hc | hc
    · rcases (show i = 0 ∨ i = 1 ∨ i = 2 ∨ i = 3 by omega) with rfl | rfl | rfl | rfl
      · have hi0 : ((((0 : Nat) : Int)) : Int) = 0 := rfl
        have g1 : decide ((0 : Int) < (L.length : Int)) = true := decide_eq_true (by omega)
        have hs := hsu 0
        have ho : oI 0 = a := hop 0
        rw [ho] at hs h0
        have hil := itoa_len h0.1 h0.2
        have hrl0 := hrl 0
        cases g2 : (L.getD 0 0 == 0) with
        | true =>
          rw [opW, if_pos (by simpa using g2)] at hs
          have hap : txs (hw ++ rW 0) ++ txs [(114 :: Lib.itoa a)] = txs (hw ++ rW 1) := by rw [txs_app1, List.append_assoc]; exact congrArg (fun z => txs (hw ++ z)) hs
          repeat' (first
           | (with_reducible first | refine nx ?_ | refine t_seq fun K => ?_ | refine t_br (fun hc => ?_) fun hc => ?_ | refine t_bx ?_ | apply And.intro | intro vr)
           | ((with_reducible first | refine ny ?_ | refine t_dwh (h := fun K KL => ?_)); intros; simp only [go_sem, kp46, geff, hi0, g1, g2, hap, r_bs, yes]))
          all_goals try exact nd
          exact ⟨⟨(1, v + 1), by simp only; omega⟩, wf, lf⟩
        | false =>
          rw [opW, if_neg (by simpa using g2)] at hs
          have hap : txs (hw ++ rW 0) ++ txs [(Lib.itoa a)] = txs (hw ++ rW 1) := by rw [txs_app1, List.append_assoc]; exact congrArg (fun z => txs (hw ++ z)) hs
          repeat' (first
           | (with_reducible first | refine nx ?_ | refine t_seq fun K => ?_ | refine t_br (fun hc => ?_) fun hc => ?_ | refine t_bx ?_ | apply And.intro | intro vr)
           | ((with_reducible first | refine ny ?_ | refine t_dwh (h := fun K KL => ?_)); intros; simp only [go_sem, kp46, geff, hi0, g1, g2, hap, r_bs, yes]))
          all_goals try exact nd
          exact ⟨⟨(1, v + 1), by simp only; omega⟩, wf, lf⟩
      · have hi0 : ((((1 : Nat) : Int)) : Int) = 1 := rfl
        have g1 : decide ((1 : Int) < (L.length : Int)) = true := decide_eq_true (by omega)
        have hs := hsu 1
        have ho : oI 1 = b := hop 1
        rw [ho] at hs h1
        have hil := itoa_len h1.1 h1.2
        have hrl1 := hrl 1
        cases g2 : (L.getD 1 0 == 0) with
        | true =>
          rw [opW, if_pos (by simpa using g2)] at hs
          have hap : txs (hw ++ rW 1) ++ txs [(114 :: Lib.itoa b)] = txs (hw ++ rW 2) := by rw [txs_app1, List.append_assoc]; exact congrArg (fun z => txs (hw ++ z)) hs
          repeat' (first
           | (with_reducible first | refine nx ?_ | refine t_seq fun K => ?_ | refine t_br (fun hc => ?_) fun hc => ?_ | refine t_bx ?_ | apply And.intro | intro vr)
           | ((with_reducible first | refine ny ?_ | refine t_dwh (h := fun K KL => ?_)); intros; simp only [go_sem, kp46, geff, hi0, g1, g2, hap, r_bs, yes]))
          all_goals try exact nd
          exact ⟨⟨(2, v + 1), by simp only; omega⟩, wf, lf⟩
        | false =>
          rw [opW, if_neg (by simpa using g2)] at hs
          have hap : txs (hw ++ rW 1) ++ txs [(Lib.itoa b)] = txs (hw ++ rW 2) := by rw [txs_app1, List.append_assoc]; exact congrArg (fun z => txs (hw ++ z)) hs
          repeat' (first
           | (with_reducible first | refine nx ?_ | refine t_seq fun K => ?_ | refine t_br (fun hc => ?_) fun hc => ?_ | refine t_bx ?_ | apply And.intro | intro vr)
           | ((with_reducible first | refine ny ?_ | refine t_dwh (h := fun K KL => ?_)); intros; simp only [go_sem, kp46, geff, hi0, g1, g2, hap, r_bs, yes]))
          all_goals try exact nd
          exact ⟨⟨(2, v + 1), by simp only; omega⟩, wf, lf⟩
      · have hi0 : ((((2 : Nat) : Int)) : Int) = 2 := rfl
        have g1 : decide ((2 : Int) < (L.length : Int)) = true := decide_eq_true (by omega)
        have hs := hsu 2
        have ho : oI 2 = c := hop 2
        rw [ho] at hs h2
        have hil := itoa_len h2.1 h2.2
        have hrl2 := hrl 2
        cases g2 : (L.getD 2 0 == 0) with
        | true =>
          rw [opW, if_pos (by simpa using g2)] at hs
          have hap : txs (hw ++ rW 2) ++ txs [(114 :: Lib.itoa c)] = txs (hw ++ rW 3) := by rw [txs_app1, List.append_assoc]; exact congrArg (fun z => txs (hw ++ z)) hs
          repeat' (first
           | (with_reducible first | refine nx ?_ | refine t_seq fun K => ?_ | refine t_br (fun hc => ?_) fun hc => ?_ | refine t_bx ?_ | apply And.intro | intro vr)
           | ((with_reducible first | refine ny ?_ | refine t_dwh (h := fun K KL => ?_)); intros; simp only [go_sem, kp46, geff, hi0, g1, g2, hap, r_bs, yes]))
          all_goals try exact nd
          exact ⟨⟨(3, v + 1), by simp only; omega⟩, wf, lf⟩
        | false =>
          rw [opW, if_neg (by simpa using g2)] at hs
          have hap : txs (hw ++ rW 2) ++ txs [(Lib.itoa c)] = txs (hw ++ rW 3) := by rw [txs_app1, List.append_assoc]; exact congrArg (fun z => txs (hw ++ z)) hs
          repeat' (first
           | (with_reducible first | refine nx ?_ | refine t_seq fun K => ?_ | refine t_br (fun hc => ?_) fun hc => ?_ | refine t_bx ?_ | apply And.intro | intro vr)
           | ((with_reducible first | refine ny ?_ | refine t_dwh (h := fun K KL => ?_)); intros; simp only [go_sem, kp46, geff, hi0, g1, g2, hap, r_bs, yes]))
          all_goals try exact nd
          exact ⟨⟨(3, v + 1), by simp only; omega⟩, wf, lf⟩
      · have hi0 : ((((3 : Nat) : Int)) : Int) = 3 := rfl
        have g1 : decide ((3 : Int) < (L.length : Int)) = true := decide_eq_true (by omega)
        have hs := hsu 3
        have ho : oI 3 = d := hop 3
        rw [ho] at hs h3
        have hil := itoa_len h3.1 h3.2
        have hrl3 := hrl 3
        cases g2 : (L.getD 3 0 == 0) with
        | true =>
          rw [opW, if_pos (by simpa using g2)] at hs
          have hap : txs (hw ++ rW 3) ++ txs [(114 :: Lib.itoa d)] = txs (hw ++ rW 4) := by rw [txs_app1, List.append_assoc]; exact congrArg (fun z => txs (hw ++ z)) hs
          repeat' (first
           | (with_reducible first | refine nx ?_ | refine t_seq fun K => ?_ | refine t_br (fun hc => ?_) fun hc => ?_ | refine t_bx ?_ | apply And.intro | intro vr)
           | ((with_reducible first | refine ny ?_ | refine t_dwh (h := fun K KL => ?_)); intros; simp only [go_sem, kp46, geff, hi0, g1, g2, hap, r_bs, yes]))
          all_goals try exact nd
          exact ⟨⟨(4, v + 1), by simp only; omega⟩, wf, lf⟩
        | false =>
          rw [opW, if_neg (by simpa using g2)] at hs
          have hap : txs (hw ++ rW 3) ++ txs [(Lib.itoa d)] = txs (hw ++ rW 4) := by rw [txs_app1, List.append_assoc]; exact congrArg (fun z => txs (hw ++ z)) hs
          repeat' (first
           | (with_reducible first | refine nx ?_ | refine t_seq fun K => ?_ | refine t_br (fun hc => ?_) fun hc => ?_ | refine t_bx ?_ | apply And.intro | intro vr)
           | ((with_reducible first | refine ny ?_ | refine t_dwh (h := fun K KL => ?_)); intros; simp only [go_sem, kp46, geff, hi0, g1, g2, hap, r_bs, yes]))
          all_goals try exact nd
          exact ⟨⟨(4, v + 1), by simp only; omega⟩, wf, lf⟩
    · have hiL : i = L.length := by omega
      subst hiL
      have g1 : decide ((L.length : Int) < (L.length : Int)) = false := decide_eq_false (by omega)
      subst hR
      repeat' (first
       | (with_reducible first | refine nx ?_ | refine t_seq fun K => ?_ | refine t_br (fun hc => ?_) fun hc => ?_ | refine t_bx ?_ | apply And.intro | intro vr)
       | ((with_reducible first | refine ny ?_ | refine t_dwh (h := fun K KL => ?_)); intros; simp only [go_sem, kp46, geff, g1]))
      all_goals try exact nd
      all_goals (refine nl ?_; simp only [go_sem])
      exact LeA.refl _
  | false =>
    have hq5 : hw = [N] := by rw [hc0, if_neg (by simpa using hk5)]
    have hwl : hw.length ≤ 2 := by rw [hq5]; simp
    refine pcR Y0_ok (kp46) Tryd.func46 [.tmp 2] (h := fun KF => ?_)
    unfold Y0
    repeat' (first
     | (with_reducible first | refine nx ?_ | refine t_seq fun K => ?_ | refine t_br (fun hc => ?_) fun hc => ?_ | refine t_bx ?_ | apply And.intro | intro vr)
     | ((with_reducible first | refine ny ?_ | refine t_dwh (h := fun K KL => ?_)); intros; simp only [go_sem, kp46, geff, hS, hnm, hk5, List.cons_append, List.nil_append, yes]))
    all_goals try exact nd
    refine t_loopF (ι := Option { q : Nat × Nat // q.1 ≤ L.length }) (fun o => match o with | none => [(28, .lit (.int .i64 0)), (5, .sl true 1 (txs [N]))] | some i => [(28, .lit (.int .i64 (i.1.1 : Int))), (5, .arr 2 i.1.2)]) (fun o => match o with | none => [.box 32 [.lit (.int .i64 k), .lit (.string (bs q)), .lit (.int .i64 a), .lit (.int .i64 b), .lit (.int .i64 c), .lit (.int .i64 d)], .box 47 [.lit (.string (bs N)), .sl false 1 (ints .i64 L), .lit (.bool (wrtB k)), .sl false 1 (ints .i64 M)]] | some i => [.box 32 [.lit (.int .i64 k), .lit (.string (bs q)), .lit (.int .i64 a), .lit (.int .i64 b), .lit (.int .i64 c), .lit (.int .i64 d)], .box 47 [.lit (.string (bs N)), .sl false 1 (ints .i64 L), .lit (.bool (wrtB k)), .sl false 1 (ints .i64 M)], .arr 9 1 (txs (hw ++ rW i.1.1)) i.1.2 false]) (fun o => match o with | none => L.length + 1 | some i => L.length - i.1.1) none ?_ ?_
    · simp only [updL_nil, updL_cons, delF_top, delF_upd, Nat.reduceEqDiff, reduceIte]
      refine Le.frameS (by first | rfl | (simp only [go_sem]; try rfl)) ?_
      repeat' (first | exact leF_top _ | exact (fun _ => LeR.refl _) | (with_reducible refine leF_sl ?_ ?_) | (refine leF_upd ?_ ?_))
      all_goals (first | exact LeR.top _ | exact LeR.refl _ | (refine LeR.of_eq ?_; (try simp only [go_sem]); try rfl) | ((try simp only [go_sem]); try rfl))
    rintro (_ | ⟨⟨i, v⟩, hi⟩) K0
    · simp only [updL_nil, updL_cons] at K0 ⊢
      rcases Nat.lt_or_ge 0 L.length with hc | hc
      · have hi0 : ((((0 : Nat) : Int)) : Int) = 0 := rfl
        have g1 : decide ((0 : Int) < (L.length : Int)) = true := decide_eq_true (by omega)
        have hs := hsu 0
        have ho : oI 0 = a := hop 0
        rw [ho] at hs h0
        have hil := itoa_len h0.1 h0.2
        have hrl0 := hrl 0
        cases g2 : (L.getD 0 0 == 0) with
        | true =>
          rw [opW, if_pos (by simpa using g2)] at hs
          have hap : txs [N] ++ txs [(114 :: Lib.itoa a)] = txs (hw ++ rW 1) := by rw [txs_app1]; rw [hr0] at hs; rw [hq5, ← hs]; rfl
          repeat' (first
           | (with_reducible first | refine nx ?_ | refine t_seq fun K => ?_ | refine t_br (fun hc => ?_) fun hc => ?_ | refine t_bx ?_ | apply And.intro | intro vr)
           | ((with_reducible first | refine ny ?_ | refine t_dwh (h := fun K KL => ?_)); intros; simp only [go_sem, kp46, geff, hi0, g1, g2, hap, r_bs, yes]))
          all_goals try exact nd
          exact ⟨(some ⟨(1, 0), by simp only; omega⟩), wf, lf⟩
        | false =>
          rw [opW, if_neg (by simpa using g2)] at hs
          have hap : txs [N] ++ txs [(Lib.itoa a)] = txs (hw ++ rW 1) := by rw [txs_app1]; rw [hr0] at hs; rw [hq5, ← hs]; rfl
          repeat' (first
           | (with_reducible first | refine nx ?_ | refine t_seq fun K => ?_ | refine t_br (fun hc => ?_) fun hc => ?_ | refine t_bx ?_ | apply And.intro | intro vr)
           | ((with_reducible first | refine ny ?_ | refine t_dwh (h := fun K KL => ?_)); intros; simp only [go_sem, kp46, geff, hi0, g1, g2, hap, r_bs, yes]))
          all_goals try exact nd
          exact ⟨(some ⟨(1, 0), by simp only; omega⟩), wf, lf⟩
      · have g1 : decide ((0 : Int) < (L.length : Int)) = false := decide_eq_false (by omega)
        have h00 : L.length = 0 := by omega
        rw [h00, hr0, hq5, List.append_nil] at hW hR
        subst hR
        repeat' (first
         | (with_reducible first | refine nx ?_ | refine t_seq fun K => ?_ | refine t_br (fun hc => ?_) fun hc => ?_ | refine t_bx ?_ | apply And.intro | intro vr)
         | ((with_reducible first | refine ny ?_ | refine t_dwh (h := fun K KL => ?_)); intros; simp only [go_sem, kp46, geff, g1]))
        all_goals try exact nd
        all_goals (refine nl ?_; simp only [go_sem])
        exact LeA.refl _
    simp only at hi
    rcases Nat.lt_or_ge i L.length with hc | hc
    · rcases (show i = 0 ∨ i = 1 ∨ i = 2 ∨ i = 3 by omega) with rfl | rfl | rfl | rfl
      · have hi0 : ((((0 : Nat) : Int)) : Int) = 0 := rfl
        have g1 : decide ((0 : Int) < (L.length : Int)) = true := decide_eq_true (by omega)
        have hs := hsu 0
        have ho : oI 0 = a := hop 0
        rw [ho] at hs h0
        have hil := itoa_len h0.1 h0.2
        have hrl0 := hrl 0
        cases g2 : (L.getD 0 0 == 0) with
        | true =>
          rw [opW, if_pos (by simpa using g2)] at hs
          have hap : txs (hw ++ rW 0) ++ txs [(114 :: Lib.itoa a)] = txs (hw ++ rW 1) := by rw [txs_app1, List.append_assoc]; exact congrArg (fun z => txs (hw ++ z)) hs
          repeat' (first
           | (with_reducible first | refine nx ?_ | refine t_seq fun K => ?_ | refine t_br (fun hc => ?_) fun hc => ?_ | refine t_bx ?_ | apply And.intro | intro vr)
           | ((with_reducible first | refine ny ?_ | refine t_dwh (h := fun K KL => ?_)); intros; simp only [go_sem, kp46, geff, hi0, g1, g2, hap, r_bs, yes]))
          all_goals try exact nd
          exact ⟨(some ⟨(1, v + 1), by simp only; omega⟩), wf, lf⟩
        | false =>
          rw [opW, if_neg (by simpa using g2)] at hs
          have hap : txs (hw ++ rW 0) ++ txs [(Lib.itoa a)] = txs (hw ++ rW 1) := by rw [txs_app1, List.append_assoc]; exact congrArg (fun z => txs (hw ++ z)) hs
          repeat' (first
           | (with_reducible first | refine nx ?_ | refine t_seq fun K => ?_ | refine t_br (fun hc => ?_) fun hc => ?_ | refine t_bx ?_ | apply And.intro | intro vr)
           | ((with_reducible first | refine ny ?_ | refine t_dwh (h := fun K KL => ?_)); intros; simp only [go_sem, kp46, geff, hi0, g1, g2, hap, r_bs, yes]))
          all_goals try exact nd
          exact ⟨(some ⟨(1, v + 1), by simp only; omega⟩), wf, lf⟩
      · have hi0 : ((((1 : Nat) : Int)) : Int) = 1 := rfl
        have g1 : decide ((1 : Int) < (L.length : Int)) = true := decide_eq_true (by omega)
        have hs := hsu 1
        have ho : oI 1 = b := hop 1
        rw [ho] at hs h1
        have hil := itoa_len h1.1 h1.2
        have hrl1 := hrl 1
        cases g2 : (L.getD 1 0 == 0) with
        | true =>
          rw [opW, if_pos (by simpa using g2)] at hs
          have hap : txs (hw ++ rW 1) ++ txs [(114 :: Lib.itoa b)] = txs (hw ++ rW 2) := by rw [txs_app1, List.append_assoc]; exact congrArg (fun z => txs (hw ++ z)) hs
          repeat' (first
           | (with_reducible first | refine nx ?_ | refine t_seq fun K => ?_ | refine t_br (fun hc => ?_) fun hc => ?_ | refine t_bx ?_ | apply And.intro | intro vr)
           | ((with_reducible first | refine ny ?_ | refine t_dwh (h := fun K KL => ?_)); intros; simp only [go_sem, kp46, geff, hi0, g1, g2, hap, r_bs, yes]))
          all_goals try exact nd
          exact ⟨(some ⟨(2, v + 1), by simp only; omega⟩), wf, lf⟩
        | false =>
          rw [opW, if_neg (by simpa using g2)] at hs
          have hap : txs (hw ++ rW 1) ++ txs [(Lib.itoa b)] = txs (hw ++ rW 2) := by rw [txs_app1, List.append_assoc]; exact congrArg (fun z => txs (hw ++ z)) hs
          repeat' (first
           | (with_reducible first | refine nx ?_ | refine t_seq fun K => ?_ | refine t_br (fun hc => ?_) fun hc => ?_ | refine t_bx ?_ | apply And.intro | intro vr)
           | ((with_reducible first | refine ny ?_ | refine t_dwh (h := fun K KL => ?_)); intros; simp only [go_sem, kp46, geff, hi0, g1, g2, hap, r_bs, yes]))
          all_goals try exact nd
          exact ⟨(some ⟨(2, v + 1), by simp only; omega⟩), wf, lf⟩
      · have hi0 : ((((2 : Nat) : Int)) : Int) = 2 := rfl
        have g1 : decide ((2 : Int) < (L.length : Int)) = true := decide_eq_true (by omega)
        have hs := hsu 2
        have ho : oI 2 = c := hop 2
        rw [ho] at hs h2
        have hil := itoa_len h2.1 h2.2
        have hrl2 := hrl 2
        cases g2 : (L.getD 2 0 == 0) with
        | true =>
          rw [opW, if_pos (by simpa using g2)] at hs
          have hap : txs (hw ++ rW 2) ++ txs [(114 :: Lib.itoa c)] = txs (hw ++ rW 3) := by rw [txs_app1, List.append_assoc]; exact congrArg (fun z => txs (hw ++ z)) hs
          repeat' (first
           | (with_reducible first | refine nx ?_ | refine t_seq fun K => ?_ | refine t_br (fun hc => ?_) fun hc => ?_ | refine t_bx ?_ | apply And.intro | intro vr)
           | ((with_reducible first | refine ny ?_ | refine t_dwh (h := fun K KL => ?_)); intros; simp only [go_sem, kp46, geff, hi0, g1, g2, hap, r_bs, yes]))
          all_goals try exact nd
          exact ⟨(some ⟨(3, v + 1), by simp only; omega⟩), wf, lf⟩
        | false =>
          rw [opW, if_neg (by simpa using g2)] at hs
          have hap : txs (hw ++ rW 2) ++ txs [(Lib.itoa c)] = txs (hw ++ rW 3) := by rw [txs_app1, List.append_assoc]; exact congrArg (fun z => txs (hw ++ z)) hs
          repeat' (first
           | (with_reducible first | refine nx ?_ | refine t_seq fun K => ?_ | refine t_br (fun hc => ?_) fun hc => ?_ | refine t_bx ?_ | apply And.intro | intro vr)
           | ((with_reducible first | refine ny ?_ | refine t_dwh (h := fun K KL => ?_)); intros; simp only [go_sem, kp46, geff, hi0, g1, g2, hap, r_bs, yes]))
          all_goals try exact nd
          exact ⟨(some ⟨(3, v + 1), by simp only; omega⟩), wf, lf⟩
      · have hi0 : ((((3 : Nat) : Int)) : Int) = 3 := rfl
        have g1 : decide ((3 : Int) < (L.length : Int)) = true := decide_eq_true (by omega)
        have hs := hsu 3
        have ho : oI 3 = d := hop 3
        rw [ho] at hs h3
        have hil := itoa_len h3.1 h3.2
        have hrl3 := hrl 3
        cases g2 : (L.getD 3 0 == 0) with
        | true =>
          rw [opW, if_pos (by simpa using g2)] at hs
          have hap : txs (hw ++ rW 3) ++ txs [(114 :: Lib.itoa d)] = txs (hw ++ rW 4) := by rw [txs_app1, List.append_assoc]; exact congrArg (fun z => txs (hw ++ z)) hs
          repeat' (first
           | (with_reducible first | refine nx ?_ | refine t_seq fun K => ?_ | refine t_br (fun hc => ?_) fun hc => ?_ | refine t_bx ?_ | apply And.intro | intro vr)
           | ((with_reducible first | refine ny ?_ | refine t_dwh (h := fun K KL => ?_)); intros; simp only [go_sem, kp46, geff, hi0, g1, g2, hap, r_bs, yes]))
          all_goals try exact nd
          exact ⟨(some ⟨(4, v + 1), by simp only; omega⟩), wf, lf⟩
        | false =>
          rw [opW, if_neg (by simpa using g2)] at hs
          have hap : txs (hw ++ rW 3) ++ txs [(Lib.itoa d)] = txs (hw ++ rW 4) := by rw [txs_app1, List.append_assoc]; exact congrArg (fun z => txs (hw ++ z)) hs
          repeat' (first
           | (with_reducible first | refine nx ?_ | refine t_seq fun K => ?_ | refine t_br (fun hc => ?_) fun hc => ?_ | refine t_bx ?_ | apply And.intro | intro vr)
           | ((with_reducible first | refine ny ?_ | refine t_dwh (h := fun K KL => ?_)); intros; simp only [go_sem, kp46, geff, hi0, g1, g2, hap, r_bs, yes]))
          all_goals try exact nd
          exact ⟨(some ⟨(4, v + 1), by simp only; omega⟩), wf, lf⟩
    · have hiL : i = L.length := by omega
      subst hiL
      have g1 : decide ((L.length : Int) < (L.length : Int)) = false := decide_eq_false (by omega)
      subst hR
      repeat' (first
       | (with_reducible first | refine nx ?_ | refine t_seq fun K => ?_ | refine t_br (fun hc => ?_) fun hc => ?_ | refine t_bx ?_ | apply And.intro | intro vr)
       | ((with_reducible first | refine ny ?_ | refine t_dwh (h := fun K KL => ?_)); intros; simp only [go_sem, kp46, geff, g1]))
      all_goals try exact nd
      all_goals (refine nl ?_; simp only [go_sem])
      exact LeA.refl _
end Go.Proofs.YtohiagaclfaolaaDoor.Tx

/- A line read: what it gives for the line of an instruction that is right (small numbers, no name). -/
namespace Go.Proofs.YtohiagaclfaolaaDoor.Tx
open Go.Proofs.YtohiagaclfaolaaDoor
open Go Go.Fw Bm
set_option maxRecDepth 20000
/-- The forms' cells. -/
def fCs : List AV := formsV.cells
theorem formsV_fCs : formsV = .agg fCs := rfl
theorem fCs_len : fCs.length = 64 := rfl
theorem fCs_scal : fCs.all scal0 = false := rfl
theorem fCs_solid : (AV.agg fCs).solid = true := rfl
theorem fCs_cells : (AV.agg fCs).cells = fCs := rfl
noncomputable def fcA (i : Nat) : AV := fCs.getD (i * 4 + 1) .top
noncomputable def fcC (i : Nat) : AV := fCs.getD (i * 4 + 3) .top
def fcB (i : Nat) : Bool := match fCs.getD (i * 4 + 2) .top with | .lit (.bool b) => b | _ => false
def nmB (i : Nat) : ByteArray := match fCs.getD (i * 4) .top with | .lit (.string s) => s | _ => ⟨#[]⟩
theorem ex16 {p : Nat → Prop} (h : p 0 ∧ p 1 ∧ p 2 ∧ p 3 ∧ p 4 ∧ p 5 ∧ p 6 ∧ p 7 ∧ p 8 ∧ p 9 ∧ p 10 ∧ p 11 ∧ p 12 ∧ p 13 ∧ p 14 ∧ p 15) : ∀ i, i < 16 → p i := by
  intro i hi
  obtain ⟨h0, h1, h2, h3, h4, h5, h6, h7, h8, h9, h10, h11, h12, h13, h14, h15⟩ := h
  rcases (show i = 0 ∨ i = 1 ∨ i = 2 ∨ i = 3 ∨ i = 4 ∨ i = 5 ∨ i = 6 ∨ i = 7 ∨ i = 8 ∨ i = 9 ∨ i = 10 ∨ i = 11 ∨ i = 12 ∨ i = 13 ∨ i = 14 ∨ i = 15 by omega) with rfl | rfl | rfl | rfl | rfl | rfl | rfl | rfl | rfl | rfl | rfl | rfl | rfl | rfl | rfl | rfl <;> assumption
theorem forms_ok : FormsC fCs nmB fcA fcC fcB where
  hA := ex16 ⟨.inl ⟨_, rfl⟩, .inl ⟨_, rfl⟩, .inl ⟨_, rfl⟩, .inl ⟨_, rfl⟩, .inl ⟨_, rfl⟩, .inl ⟨_, rfl⟩, .inl ⟨_, rfl⟩, .inl ⟨_, rfl⟩, .inl ⟨_, rfl⟩, .inl ⟨_, rfl⟩, .inl ⟨_, rfl⟩, .inl ⟨_, rfl⟩, .inr rfl, .inr rfl, .inl ⟨_, rfl⟩, .inr rfl⟩
  hC := ex16 ⟨.inl ⟨_, rfl⟩, .inr rfl, .inl ⟨_, rfl⟩, .inl ⟨_, rfl⟩, .inl ⟨_, rfl⟩, .inr rfl, .inl ⟨_, rfl⟩, .inl ⟨_, rfl⟩, .inr rfl, .inl ⟨_, rfl⟩, .inl ⟨_, rfl⟩, .inl ⟨_, rfl⟩, .inr rfl, .inr rfl, .inl ⟨_, rfl⟩, .inr rfl⟩
  len := rfl
  at_ := ex16 ⟨rfl, rfl, rfl, rfl, rfl, rfl, rfl, rfl, rfl, rfl, rfl, rfl, rfl, rfl, rfl, rfl⟩
  sol := ex16 ⟨rfl, rfl, rfl, rfl, rfl, rfl, rfl, rfl, rfl, rfl, rfl, rfl, rfl, rfl, rfl, rfl⟩
  cel := ex16 ⟨rfl, rfl, rfl, rfl, rfl, rfl, rfl, rfl, rfl, rfl, rfl, rfl, rfl, rfl, rfl, rfl⟩
theorem forms_pcC : PC Tryd.prog 22 [] (.agg fCs) := by rw [← formsV_fCs]; exact forms_pc
noncomputable def con22C : PCon Tryd.prog where
  f := 22
  c := fun
    | [] => some (True, .agg fCs)
    | _ => none
  ok := by
    intro args p r hc hp
    split at hc
    · cases hc; exact forms_pcC
    · cases hc
  fk := fk22
theorem con22C_f : con22C.f = 22 := rfl
theorem con22C_c : con22C.c [] = some (True, .agg fCs) := rfl
theorem setRange_zero : ∀ {ys xs : List AV} (pre : List AV), xs.length = ys.length → setRange (pre ++ xs) pre.length ys = pre ++ ys
  | [], [], _, _ => rfl
  | y :: ys, x :: xs, pre, h => by
    simp only [setRange]
    have e1 : (pre ++ x :: xs).set pre.length y = (pre ++ [y]) ++ xs := by simp [List.set_append]
    have e2 : pre.length + 1 = (pre ++ [y]).length := by simp
    rw [e1, e2, setRange_zero (pre ++ [y]) (by simpa using h), List.append_assoc]; rfl
theorem setRange_f {xs : List AV} (h : xs.length = 64) : setRange xs 0 fCs = fCs := by
  have := setRange_zero (ys := fCs) (xs := xs) [] (by rw [h, fCs_len])
  simpa using this
noncomputable def zC : List AV := (zer 53).cells
theorem z53 : zer 53 = .agg zC := rfl
theorem zC_len : zC.length = 64 := rfl
theorem zC_set : setRange zC 0 fCs = fCs := setRange_f rfl
attribute [go_sem] con22C_f con22C_c fCs_len fCs_scal fCs_solid fCs_cells zC_len zC_set
noncomputable def ecn43 : ECon Tryd.prog where
  f := 43
  c := fun args σ k => match args, σ with
    | [.bsl 2 16, .fn (.func 44) [] [.ref 1 0]], [b0, .box 69 [.sl fl 1 l], .box 53 cs] => match l with
      | .lit (.string w) :: l' => ∃ ws, l' = txs ws ∧ cs = fCs ∧ k (.lit (.int .i64 (idxF nmB (ul w) 16 0))) [b0, .box 69 [.sl fl 1 l], .box 53 cs]
      | _ => False
    | _, _ => False
  ok := by
    intro args σ k h
    split at h
    · split at h
      · rename_i w l'
        obtain ⟨ws, rfl, rfl, h3⟩ := h
        obtain ⟨w, rfl⟩ := bs_ex w
        rw [ul_bs] at h3
        exact idxf_ec (w := w) (ws := ws) forms_ok h3
      · exact h.elim
    · exact h.elim
  fk := fk43
theorem ecn43_f : ecn43.f = 43 := rfl
theorem ecn43_c {fl : Bool} {b0 : AObj} {w : List UInt8} {ws : List (List UInt8)} {k : AV → List AObj → Prop} : ecn43.c [.bsl 2 16, .fn (.func 44) [] [.ref 1 0]] [b0, .box 69 [.sl fl 1 (txs (w :: ws))], .box 53 fCs] k =
    k (.lit (.int .i64 (idxF nmB w 16 0))) [b0, .box 69 [.sl fl 1 (txs (w :: ws))], .box 53 fCs] := by
  show (∃ us, txs ws = txs us ∧ fCs = fCs ∧ k (.lit (.int .i64 (idxF nmB (ul (bs w)) 16 0))) [b0, .box 69 [.sl fl 1 (txs (w :: ws))], .box 53 fCs]) = _
  rw [ul_bs]
  apply propext
  exact ⟨fun ⟨_, _, _, h⟩ => h, fun h => ⟨ws, rfl, rfl, h⟩⟩
attribute [go_sem] ecn43_f ecn43_c
noncomputable def con46 : PCon Tryd.prog where
  f := 46
  c := fun
    | [x] => match opOf x with
      | some x => some (Sm x, .lit (.string (bs (lineB x))))
      | none => none
    | _ => none
  ok := by
    intro args p r hc hp
    split at hc
    · split at hc
      · rename_i x hx
        cases hc
        rw [opOf_inv hx]
        exact line_pc hp
      · cases hc
    · cases hc
  fk := fk46
theorem con46_f : con46.f = 46 := rfl
theorem con46_c {x : AV} : con46.c [x] = match opOf x with
      | some x => some (Sm x, .lit (.string (bs (lineB x))))
      | none => none := rfl
attribute [go_sem] con46_f con46_c
theorem refs4 {a b c d e f g h : Nat} : refsOk 0 [(0, .ref a b), (1, .ref c d), (2, .ref e f), (3, .ref g h)] = true := rfl
theorem ie1 {α : Type} {x : α} {l : List α} : (x :: l).isEmpty = false := rfl
attribute [go_sem] refs4 ie1
noncomputable def Y7 : Env := envJ (P := Tryd.prog) jkT zer (fun d => d == 46) (fun _ => false) [con42, con22C, con45, con11, con46] [ecn43]
theorem Y7_ok : EnvOk Tryd.prog Y7 := envJOk zer_ok
/-- What is asked of an instruction whose line is read. -/
structure Rd (x : Ins) : Prop where
  sm : Sm x
  c1 : 1 ≤ x.code
  c5 : x.code ≠ 5
  prim : x.prim = ByteArray.empty
  split : splitW 32 (lineB x) = wordsB x
  idx : idxF nmB (ul (namL x.code)) 16 0 = x.code
  right : rightS x 200 = true
  zero : ∀ i, (kndS x).length ≤ i → opI x i = 0
  num : ∀ i, i < (kndS x).length → Lib.atoi (trimP [114] (opW ((kndS x).getD i 0) (opI x i))) = some (opI x i)
  numl : ∀ i, i < (kndS x).length → (trimP [114] (opW ((kndS x).getD i 0) (opI x i))).length ≤ 18
def oc (oI : Nat → Int) (i j : Nat) : Int := if j < i then oI j else 0
set_option maxHeartbeats 8000000 in
theorem read_pc {x : Ins} (h : Rd x) : PC Tryd.prog 35 [.lit (.string (bs (lineB x)))] (opV x) := by
  obtain ⟨hsm, hc1, hc5, hp, hsp, hix, hri, hze, hnu, hnl⟩ := h
  have hl4 := hsm.len
  have hll := hsm.line
  have hw : wordsB x = ul (namL x.code) :: restW x (kndS x).length := by simp [wordsB, headW, hc5]
  rw [hw] at hsp
  have hop : ∀ i, opI x i = [x.a, x.b, x.c, x.d].getD i 0 := fun _ => rfl
  have hrl : (restW x (kndS x).length).length = (kndS x).length := by simp [restW]
  have hrg : ∀ i, i < (kndS x).length → (restW x (kndS x).length).getD i [] = opW ((kndS x).getD i 0) (opI x i) := fun i hi => by
    simp [restW, List.getD_eq_getElem?_getD, hi]
  obtain ⟨k, p, a, b, c, d⟩ := x
  simp only at hc1 hc5 hp hop hix hsp
  subst hp
  simp only [opV]
  have hLB : lineB ⟨k, ByteArray.empty, a, b, c, d⟩ = lineB ⟨k, ByteArray.empty, a, b, c, d⟩ := rfl
  generalize hLBx : lineB ⟨k, ByteArray.empty, a, b, c, d⟩ = LB at hsp hll
  generalize restW ⟨k, ByteArray.empty, a, b, c, d⟩ (kndS ⟨k, ByteArray.empty, a, b, c, d⟩).length = R at *
  generalize opI ⟨k, ByteArray.empty, a, b, c, d⟩ = oI at *
  generalize kndS ⟨k, ByteArray.empty, a, b, c, d⟩ = L at *
  generalize ul (namL k) = N at *
  have hk5 : (k == 5) = false := by simpa using hc5
  have g1 : decide (k < 1) = false := decide_eq_false (by omega)
  have g4 : decide ((R.length : Int) > 4) = false := decide_eq_false (by omega)
  have hdr : List.drop 1 (txs (N :: R)) = txs R := rfl
  have htk : List.take (R.length + 1) (txs (N :: R)) = txs (N :: R) := by rw [← List.length_cons (a := N), ← txs_length]; exact take_all _
  refine pcR Y7_ok (kp35) Tryd.func35 [.cell 2 32] (h := fun KF => ?_)
  unfold Y7
  repeat' (first
   | (with_reducible first | refine nx ?_ | refine t_seq fun K => ?_ | refine t_br (fun hc => ?_) fun hc => ?_ | refine t_bx ?_ | apply And.intro | intro vr)
   | ((with_reducible first | refine ny ?_ | refine t_dwh (h := fun K KL => ?_)); intros; simp only [go_sem, kp35, geff, z53, hsp, hix, hk5, g1, g4, hdr, htk, txs_length, List.length_cons, yes]))
  all_goals try exact nd
  refine t_loopF (ι := { i : Nat // i ≤ L.length }) (fun i => [(51, .lit (.int .i64 i.1))]) (fun i => [.box 32 [.lit (.int .i64 0), .lit (.string (bs [])), .lit (.int .i64 0), .lit (.int .i64 0), .lit (.int .i64 0), .lit (.int .i64 0)], .box 69 [.sl false 1 (txs (N :: R))], .box 53 fCs, .box 32 [.lit (.int .i64 k), .lit (.string (bs [])), .lit (.int .i64 (oc oI i.1 0)), .lit (.int .i64 (oc oI i.1 1)), .lit (.int .i64 (oc oI i.1 2)), .lit (.int .i64 (oc oI i.1 3))], .box 92 [.ref 3 2, .ref 3 3, .ref 3 4, .ref 3 5]]) (fun i => L.length - i.1) ⟨0, by omega⟩ ?_ ?_
  · exact lf
  rintro ⟨i, hi⟩ K0
  have hdx : ∀ i, List.getD (txs R) i (.lit (.string (bs []))) = .lit (.string (bs (R.getD i []))) := fun i => txs_getJ R i
  rcases Nat.lt_or_ge i L.length with hc | hc
  · have hn1 := hnu i hc
    have hn2 := hnl i hc
    have hgd := hrg i hc
    rw [← hgd] at hn1 hn2
    rcases (show i = 0 ∨ i = 1 ∨ i = 2 ∨ i = 3 by omega) with rfl | rfl | rfl | rfl
    · have hi0 : ((((0 : Nat) : Int)) : Int) = 0 := rfl
      have g2 : decide ((0 : Int) < (R.length : Int)) = true := decide_eq_true (by omega)
      have g3 : (0 : Int) < (R.length : Int) := by omega
      repeat' (first
       | (with_reducible first | refine nx ?_ | refine t_seq fun K => ?_ | refine t_br (fun hc => ?_) fun hc => ?_ | refine t_bx ?_ | apply And.intro | intro vr)
       | ((with_reducible first | refine ny ?_ | refine t_dwh (h := fun K KL => ?_)); intros; simp only [go_sem, kp35, geff, hi0, g2, hn1, yes]))
      all_goals try exact nd
      exact ⟨⟨1, by omega⟩, wf, lf⟩
    · have hi0 : ((((1 : Nat) : Int)) : Int) = 1 := rfl
      have g2 : decide ((1 : Int) < (R.length : Int)) = true := decide_eq_true (by omega)
      have g3 : (1 : Int) < (R.length : Int) := by omega
      repeat' (first
       | (with_reducible first | refine nx ?_ | refine t_seq fun K => ?_ | refine t_br (fun hc => ?_) fun hc => ?_ | refine t_bx ?_ | apply And.intro | intro vr)
       | ((with_reducible first | refine ny ?_ | refine t_dwh (h := fun K KL => ?_)); intros; simp only [go_sem, kp35, geff, hi0, g2, hn1, yes]))
      all_goals try exact nd
      exact ⟨⟨2, by omega⟩, wf, lf⟩
    · have hi0 : ((((2 : Nat) : Int)) : Int) = 2 := rfl
      have g2 : decide ((2 : Int) < (R.length : Int)) = true := decide_eq_true (by omega)
      have g3 : (2 : Int) < (R.length : Int) := by omega
      repeat' (first
       | (with_reducible first | refine nx ?_ | refine t_seq fun K => ?_ | refine t_br (fun hc => ?_) fun hc => ?_ | refine t_bx ?_ | apply And.intro | intro vr)
       | ((with_reducible first | refine ny ?_ | refine t_dwh (h := fun K KL => ?_)); intros; simp only [go_sem, kp35, geff, hi0, g2, hn1, yes]))
      all_goals try exact nd
      exact ⟨⟨3, by omega⟩, wf, lf⟩
    · have hi0 : ((((3 : Nat) : Int)) : Int) = 3 := rfl
      have g2 : decide ((3 : Int) < (R.length : Int)) = true := decide_eq_true (by omega)
      have g3 : (3 : Int) < (R.length : Int) := by omega
      repeat' (first
       | (with_reducible first | refine nx ?_ | refine t_seq fun K => ?_ | refine t_br (fun hc => ?_) fun hc => ?_ | refine t_bx ?_ | apply And.intro | intro vr)
       | ((with_reducible first | refine ny ?_ | refine t_dwh (h := fun K KL => ?_)); intros; simp only [go_sem, kp35, geff, hi0, g2, hn1, yes]))
      all_goals try exact nd
      exact ⟨⟨4, by omega⟩, wf, lf⟩
  · have hiL : i = L.length := by omega
    subst hiL
    have ho : ∀ j, j < 4 → oc oI L.length j = oI j := fun j hj => by
      unfold oc
      split
      · rfl
      · exact (hze j (by omega)).symm
    have o0 : oc oI L.length 0 = a := (ho 0 (by omega)).trans (hop 0)
    have o1 : oc oI L.length 1 = b := (ho 1 (by omega)).trans (hop 1)
    have o2 : oc oI L.length 2 = c := (ho 2 (by omega)).trans (hop 2)
    have o3 : oc oI L.length 3 = d := (ho 3 (by omega)).trans (hop 3)
    have g2 : decide ((L.length : Int) < (R.length : Int)) = false := decide_eq_false (by omega)
    have g5 : (LB == LB) = true := by simp
    have hri2 : rightS ⟨k, bs [], a, b, c, d⟩ 200 = true := hri
    have hLB2 : lineB ⟨k, bs [], a, b, c, d⟩ = LB := hLBx
    have hsm2 : Sm ⟨k, bs [], a, b, c, d⟩ := hsm
    repeat' (first
     | (with_reducible first | refine nx ?_ | refine t_seq fun K => ?_ | refine t_br (fun hc => ?_) fun hc => ?_ | refine t_bx ?_ | apply And.intro | intro vr)
     | ((with_reducible first | refine ny ?_ | refine t_dwh (h := fun K KL => ?_)); intros; simp only [go_sem, kp35, geff, g2, o0, o1, o2, o3, hri2, hLB2, g5, yes]))
    all_goals try exact nd
    all_goals (refine nl ?_; simp only [go_sem])
    exact LeA.refl _
end Go.Proofs.YtohiagaclfaolaaDoor.Tx

/- A line parsed. -/
namespace Go.Proofs.YtohiagaclfaolaaDoor.Tx
open Go.Proofs.YtohiagaclfaolaaDoor
open Go Go.Fw Bm
set_option maxRecDepth 20000
theorem rc_lit {C : Nat → Nat → Option Value} {a v : Value} (h : RC C (.lit a) v) : v = a := by
  generalize hz : AV.lit a = z at h
  cases h <;> first | (cases hz; rfl) | cases hz
theorem rc_op {C : Nat → Nat → Option Value} {x : Ins} {v : Value} (h : RC C (opV x) v) : v = .agg #[.int .i64 x.code, .string x.prim, .int .i64 x.a, .int .i64 x.b, .int .i64 x.c, .int .i64 x.d] := by
  obtain ⟨k, p, a, b, c, d⟩ := x
  simp only [opV] at h
  generalize hz : AV.agg [.lit (.int .i64 k), .lit (.string p), .lit (.int .i64 a), .lit (.int .i64 b), .lit (.int .i64 c), .lit (.int .i64 d)] = z at h
  cases h with
  | agg xs vs hl h1 hh =>
    cases hz
    match vs, hl with
    | [v0, v1, v2, v3, v4, v5], _ =>
      have e0 := rc_lit (hh 0 (by simp))
      have e1 := rc_lit (hh 1 (by simp))
      have e2 := rc_lit (hh 2 (by simp))
      have e3 := rc_lit (hh 3 (by simp))
      have e4 := rc_lit (hh 4 (by simp))
      have e5 := rc_lit (hh 5 (by simp))
      simp only [List.getD_cons_zero, List.getD_cons_succ] at e0 e1 e2 e3 e4 e5
      subst e0 e1 e2 e3 e4 e5
      rfl
  | _ => cases hz
theorem parsed_pc {x : Ins} (h : Rd x) : PC Tryd.prog 26 [.lit (.string (bs (lineB x)))] (.tup [opV x, .lit (.bool true)]) := by
  intro C w vs hl hin
  rw [lit1 hl]
  have hr : ∀ w1 : World, More w w1 → Calls Tryd.prog 35 #[.string (bs (lineB x))] w1 fun e w' => e = .returned (.agg #[.int .i64 x.code, .string x.prim, .int .i64 x.a, .int .i64 x.b, .int .i64 x.c, .int .i64 x.d]) ∧ RowKit.Below w1.heap.size w1 w' := fun w1 hm => by
    refine (read_pc h C w1 [.string (bs (lineB x))] ⟨rfl, fun i hi => ?_⟩ ⟨fun k o u hu => hm.cell (hin.1 k o u hu), hin.2⟩).mono ?_
    · match i, hi with
      | 0, _ => exact .lit _
    · rintro e w' ⟨v, C', rfl, _, h2, _, h4, _⟩
      rw [rc_op h2]
      exact ⟨rfl, More.below h4⟩
  refine (parsed_calls w hr).mono ?_
  rintro e w' ⟨rfl, hb⟩
  have hm := More.of_below hb
  refine ⟨_, C, rfl, CLe.refl _, ?_, ⟨fun k o u hu => hm.cell (hin.1 k o u hu), hin.2⟩, hm, fun _ _ _ => rfl⟩
  obtain ⟨k, p, a, b, c, d⟩ := x
  refine RC.tup [opV ⟨k, p, a, b, c, d⟩, .lit (.bool true)] [_, _] rfl fun i hi => ?_
  match i, hi with
  | 0, _ =>
    refine RC.agg [.lit (.int .i64 k), .lit (.string p), .lit (.int .i64 a), .lit (.int .i64 b), .lit (.int .i64 c), .lit (.int .i64 d)] [.int .i64 k, .string p, .int .i64 a, .int .i64 b, .int .i64 c, .int .i64 d] rfl (fun i hi => ?_) fun i hi => ?_
    · match i, hi with
      | 0, _ => rfl
      | 1, _ => rfl
      | 2, _ => rfl
      | 3, _ => rfl
      | 4, _ => rfl
      | 5, _ => rfl
    · match i, hi with
      | 0, _ => exact .lit _
      | 1, _ => exact .lit _
      | 2, _ => exact .lit _
      | 3, _ => exact .lit _
      | 4, _ => exact .lit _
      | 5, _ => exact .lit _
  | 1, _ => exact .lit _
end Go.Proofs.YtohiagaclfaolaaDoor.Tx

/- The text of awake's example parsed. -/
namespace Go.Proofs.YtohiagaclfaolaaDoor.Tx
open Go.Proofs.YtohiagaclfaolaaDoor
open Go Go.Fw Bm
set_option maxRecDepth 20000
def ln0 : List UInt8 := [99, 111, 110, 115, 116, 32, 114, 49, 32, 52]
def in0 : Ins := ⟨1, ByteArray.empty, 1, 4, 0, 0⟩
def ln1 : List UInt8 := [102, 111, 114, 32, 114, 48, 32, 114, 50, 32, 114, 49, 32, 49]
def in1 : Ins := ⟨10, ByteArray.empty, 0, 2, 1, 1⟩
def ln2 : List UInt8 := [101, 110, 100]
def in2 : Ins := ⟨13, ByteArray.empty, 0, 0, 0, 0⟩
def tx0 : List UInt8 := [99, 111, 110, 115, 116, 32, 114, 49, 32, 52, 10, 102, 111, 114, 32, 114, 48, 32, 114, 50, 32, 114, 49, 32, 49, 10, 101, 110, 100, 10]
def tx1 : List UInt8 := [102, 111, 114, 32, 114, 48, 32, 114, 50, 32, 114, 49, 32, 49, 10, 101, 110, 100, 10]
def tx2 : List UInt8 := [101, 110, 100, 10]
def tx3 : List UInt8 := []
theorem line0 : lineB in0 = ln0 := by decide +kernel
theorem rd0 : Rd in0 where
  sm := ⟨by decide +kernel, by decide +kernel, by decide +kernel⟩
  c1 := by decide
  c5 := by decide
  prim := rfl
  split := by decide +kernel
  idx := by decide +kernel
  right := by decide +kernel
  zero := fun i hi => by
    match i with
    | 0 => revert hi; decide +kernel
    | 1 => revert hi; decide +kernel
    | 2 => revert hi; decide +kernel
    | 3 => revert hi; decide +kernel
    | _ + 4 => rfl
  num := by decide +kernel
  numl := by decide +kernel
theorem parsed0 : PC Tryd.prog 26 [.lit (.string (bs ln0))] (.tup [opV in0, .lit (.bool true)]) := by
  rw [← line0]; exact parsed_pc rd0
theorem cut0 : cutV 10 tx0 = .tup [.lit (.string (bs ln0)), .lit (.string (bs tx1)), .lit (.bool true)] := cutV_some (by decide)
theorem ne0 : (tx0 == []) = false := rfl
theorem line1 : lineB in1 = ln1 := by decide +kernel
theorem rd1 : Rd in1 where
  sm := ⟨by decide +kernel, by decide +kernel, by decide +kernel⟩
  c1 := by decide
  c5 := by decide
  prim := rfl
  split := by decide +kernel
  idx := by decide +kernel
  right := by decide +kernel
  zero := fun i hi => by
    match i with
    | 0 => revert hi; decide +kernel
    | 1 => revert hi; decide +kernel
    | 2 => revert hi; decide +kernel
    | 3 => revert hi; decide +kernel
    | _ + 4 => rfl
  num := by decide +kernel
  numl := by decide +kernel
theorem parsed1 : PC Tryd.prog 26 [.lit (.string (bs ln1))] (.tup [opV in1, .lit (.bool true)]) := by
  rw [← line1]; exact parsed_pc rd1
theorem cut1 : cutV 10 tx1 = .tup [.lit (.string (bs ln1)), .lit (.string (bs tx2)), .lit (.bool true)] := cutV_some (by decide)
theorem ne1 : (tx1 == []) = false := rfl
theorem line2 : lineB in2 = ln2 := by decide +kernel
theorem rd2 : Rd in2 where
  sm := ⟨by decide +kernel, by decide +kernel, by decide +kernel⟩
  c1 := by decide
  c5 := by decide
  prim := rfl
  split := by decide +kernel
  idx := by decide +kernel
  right := by decide +kernel
  zero := fun i hi => by
    match i with
    | 0 => revert hi; decide +kernel
    | 1 => revert hi; decide +kernel
    | 2 => revert hi; decide +kernel
    | 3 => revert hi; decide +kernel
    | _ + 4 => rfl
  num := by decide +kernel
  numl := by decide +kernel
theorem parsed2 : PC Tryd.prog 26 [.lit (.string (bs ln2))] (.tup [opV in2, .lit (.bool true)]) := by
  rw [← line2]; exact parsed_pc rd2
theorem cut2 : cutV 10 tx2 = .tup [.lit (.string (bs ln2)), .lit (.string (bs tx3)), .lit (.bool true)] := cutV_some (by decide)
theorem ne2 : (tx2 == []) = false := rfl
def p26 (s : ByteArray) : VR := if s = bs ln0 then some (True, .tup [opV in0, .lit (.bool true)]) else if s = bs ln1 then some (True, .tup [opV in1, .lit (.bool true)]) else if s = bs ln2 then some (True, .tup [opV in2, .lit (.bool true)]) else none
noncomputable def con26 : PCon Tryd.prog where
  f := 26
  c := fun
    | [.lit (.string s)] => p26 s
    | _ => none
  ok := by
    intro args p r hc hp
    split at hc
    · unfold p26 at hc
      split at hc
      · rename_i h; cases hc; rw [h]; exact parsed0
      · split at hc
        · rename_i h; cases hc; rw [h]; exact parsed1
        · split at hc
          · rename_i h; cases hc; rw [h]; exact parsed2
          · cases hc
    · cases hc
  fk := fk26
theorem con26_f : con26.f = 26 := rfl
theorem con26_0 : con26.c [.lit (.string (bs ln0))] = some (True, .tup [.agg [.lit (.int .i64 1), .lit (.string ByteArray.empty), .lit (.int .i64 1), .lit (.int .i64 4), .lit (.int .i64 0), .lit (.int .i64 0)], .lit (.bool true)]) := by
  show p26 (bs ln0) = _
  unfold p26
  rw [if_pos rfl]; rfl
theorem con26_1 : con26.c [.lit (.string (bs ln1))] = some (True, .tup [.agg [.lit (.int .i64 10), .lit (.string ByteArray.empty), .lit (.int .i64 0), .lit (.int .i64 2), .lit (.int .i64 1), .lit (.int .i64 1)], .lit (.bool true)]) := by
  show p26 (bs ln1) = _
  unfold p26
  rw [if_neg (by decide), if_pos rfl]; rfl
theorem con26_2 : con26.c [.lit (.string (bs ln2))] = some (True, .tup [.agg [.lit (.int .i64 13), .lit (.string ByteArray.empty), .lit (.int .i64 0), .lit (.int .i64 0), .lit (.int .i64 0), .lit (.int .i64 0)], .lit (.bool true)]) := by
  show p26 (bs ln2) = _
  unfold p26
  rw [if_neg (by decide), if_neg (by decide), if_pos rfl]; rfl
attribute [go_sem] con26_f con26_0 con26_1 con26_2
def txI (i : Nat) : List UInt8 := [tx0, tx1, tx2, tx3].getD i []
def insL : List Ins := [in0, in1, in2]
theorem tI0 : txI 0 = tx0 := rfl
theorem tI1 : txI 1 = tx1 := rfl
theorem tI2 : txI 2 = tx2 := rfl
theorem tI3 : txI 3 = [] := rfl
noncomputable def Y9 : Env := envJ (P := Tryd.prog) jkV zer (fun _ => false) (fun _ => false) [con25, con26] []
theorem Y9_ok : EnvOk Tryd.prog Y9 := envJOk zer_ok
theorem tk_len {i : Nat} (h : i ≤ 3) : (opsV (insL.take i)).length = i := by rw [opsV_length, List.length_take]; exact Nat.min_eq_left h
set_option maxHeartbeats 8000000 in
theorem parse_pc : PC Tryd.prog 17 [.lit (.string (bs (txI 0)))] (.tup [.sl false 6 (opsV insL), .lit (.int .i64 0), .lit (.int .i64 0)]) := by
  refine pcR Y9_ok (kp17) Tryd.func17 [.tmp 2, .tmp 3, .tmp 4] (h := fun KF => ?_)
  unfold Y9
  repeat' (first
   | (with_reducible first | refine nx ?_ | refine t_seq fun K => ?_ | refine t_br (fun hc => ?_) fun hc => ?_ | refine t_bx ?_ | apply And.intro | intro vr)
   | ((with_reducible first | refine ny ?_ | refine t_dwh (h := fun K KL => ?_)); intros; simp only [go_sem, kp17, geff]))
  all_goals try exact nd
  refine t_loopF (ι := { q : Nat × Nat // q.1 ≤ 3 }) (fun i => [(0, .lit (.string (bs (txI i.1.1)))), (2, .arr 0 i.1.2)]) (fun i => [.arr 32 6 (opsV (insL.take i.1.1)) i.1.2 false]) (fun i => 3 - i.1.1) ⟨(0, 0), by simp⟩ ?_ ?_
  · refine (le_nil 2 32 6 rfl).trans ?_
    exact lf
  rintro ⟨⟨i, v⟩, hi⟩ K0
  simp only at hi
  have hl := tk_len hi
  rcases (show i = 0 ∨ i = 1 ∨ i = 2 ∨ i = 3 by omega) with rfl | rfl | rfl | rfl
  · have hq : ((((0 : Nat) : Int)) == 5000) = false := rfl
    have htl : tx0.length ≤ 1000000000 := by decide
    repeat' (first
     | (with_reducible first | refine nx ?_ | refine t_seq fun K => ?_ | refine t_br (fun hc => ?_) fun hc => ?_ | refine t_bx ?_ | apply And.intro | intro vr)
     | ((with_reducible first | refine ny ?_ | refine t_dwh (h := fun K KL => ?_)); intros; simp only [go_sem, kp17, geff, tI0, ne0, hl, hq, cut0, yes]))
    all_goals try exact nd
    refine ⟨⟨(1, v + 1), by simp only; omega⟩, by first | (simp only; omega) | omega, ?_⟩
    try simp only [updL_nil, updL_cons, delF_top, delF_upd, Nat.reduceEqDiff, reduceIte]
    refine le_backD (by first | rfl | (simp only [go_sem]; try rfl)) (by first | exact Nat.zero_le _ | simp) (by first | rfl | simp [lowO, low_lit, low_sl, low_ref, low_arr, low_sub, low_mp]) ?_ ?_
    · repeat' (first | exact low_top | (refine low_upd rfl ?_))
    repeat' (first | exact leF_top _ | exact (fun _ => LeR.refl _) | (with_reducible refine leF_sl ?_ ?_) | (refine leF_upd ?_ ?_))
    all_goals (first | exact LeR.top _ | exact LeR.refl _ | (refine LeR.of_eq ?_; (try simp only [go_sem]); try rfl) | ((try simp only [go_sem]); try rfl))
  · have hq : ((((1 : Nat) : Int)) == 5000) = false := rfl
    have htl : tx1.length ≤ 1000000000 := by decide
    repeat' (first
     | (with_reducible first | refine nx ?_ | refine t_seq fun K => ?_ | refine t_br (fun hc => ?_) fun hc => ?_ | refine t_bx ?_ | apply And.intro | intro vr)
     | ((with_reducible first | refine ny ?_ | refine t_dwh (h := fun K KL => ?_)); intros; simp only [go_sem, kp17, geff, tI1, ne1, hl, hq, cut1, yes]))
    all_goals try exact nd
    refine ⟨⟨(2, v + 1), by simp only; omega⟩, by first | (simp only; omega) | omega, ?_⟩
    try simp only [updL_nil, updL_cons, delF_top, delF_upd, Nat.reduceEqDiff, reduceIte]
    refine le_backD (by first | rfl | (simp only [go_sem]; try rfl)) (by first | exact Nat.zero_le _ | simp) (by first | rfl | simp [lowO, low_lit, low_sl, low_ref, low_arr, low_sub, low_mp]) ?_ ?_
    · repeat' (first | exact low_top | (refine low_upd rfl ?_))
    repeat' (first | exact leF_top _ | exact (fun _ => LeR.refl _) | (with_reducible refine leF_sl ?_ ?_) | (refine leF_upd ?_ ?_))
    all_goals (first | exact LeR.top _ | exact LeR.refl _ | (refine LeR.of_eq ?_; (try simp only [go_sem]); try rfl) | ((try simp only [go_sem]); try rfl))
  · have hq : ((((2 : Nat) : Int)) == 5000) = false := rfl
    have htl : tx2.length ≤ 1000000000 := by decide
    repeat' (first
     | (with_reducible first | refine nx ?_ | refine t_seq fun K => ?_ | refine t_br (fun hc => ?_) fun hc => ?_ | refine t_bx ?_ | apply And.intro | intro vr)
     | ((with_reducible first | refine ny ?_ | refine t_dwh (h := fun K KL => ?_)); intros; simp only [go_sem, kp17, geff, tI2, ne2, hl, hq, cut2, yes]))
    all_goals try exact nd
    refine ⟨⟨(3, v + 1), by simp only; omega⟩, by first | (simp only; omega) | omega, ?_⟩
    try simp only [updL_nil, updL_cons, delF_top, delF_upd, Nat.reduceEqDiff, reduceIte]
    refine le_backD (by first | rfl | (simp only [go_sem]; try rfl)) (by first | exact Nat.zero_le _ | simp) (by first | rfl | simp [lowO, low_lit, low_sl, low_ref, low_arr, low_sub, low_mp]) ?_ ?_
    · repeat' (first | exact low_top | (refine low_upd rfl ?_))
    repeat' (first | exact leF_top _ | exact (fun _ => LeR.refl _) | (with_reducible refine leF_sl ?_ ?_) | (refine leF_upd ?_ ?_))
    all_goals (first | exact LeR.top _ | exact LeR.refl _ | (refine LeR.of_eq ?_; (try simp only [go_sem]); try rfl) | ((try simp only [go_sem]); try rfl))
  · have hn : (([] : List UInt8) == []) = true := rfl
    repeat' (first
     | (with_reducible first | refine nx ?_ | refine t_seq fun K => ?_ | refine t_br (fun hc => ?_) fun hc => ?_ | refine t_bx ?_ | apply And.intro | intro vr)
     | ((with_reducible first | refine ny ?_ | refine t_dwh (h := fun K KL => ?_)); intros; simp only [go_sem, kp17, geff, tI3, hn, yes]))
    all_goals try exact nd
    all_goals (refine nl ?_; simp only [go_sem])
    exact LeA.refl _
end Go.Proofs.YtohiagaclfaolaaDoor.Tx

/- awake. -/
namespace Go.Proofs.YtohiagaclfaolaaDoor.Tx
open Go.Proofs.YtohiagaclfaolaaDoor
open Go Go.Fw Bm
set_option maxRecDepth 20000
def p17 (s : ByteArray) : VR := if s = bs tx0 then some (True, .tup [.sl false 6 (opsV insL), .lit (.int .i64 0), .lit (.int .i64 0)]) else none
noncomputable def con17 : PCon Tryd.prog where
  f := 17
  c := fun
    | [.lit (.string s)] => p17 s
    | _ => none
  ok := by
    intro args p r hc hp
    split at hc
    · unfold p17 at hc
      split at hc
      · rename_i h; cases hc; rw [h]; exact parse_pc
      · cases hc
    · cases hc
  fk := fk17
theorem con17_f : con17.f = 17 := rfl
theorem con17_c : con17.c [.lit (.string ⟨#[99, 111, 110, 115, 116, 32, 114, 49, 32, 52, 10, 102, 111, 114, 32, 114, 48, 32, 114, 50, 32, 114, 49, 32, 49, 10, 101, 110, 100, 10]⟩)] = some (True, .tup [.sl false 6 (opsV insL), .lit (.int .i64 0), .lit (.int .i64 0)]) := by
  show p17 (bs tx0) = _
  unfold p17
  rw [if_pos rfl]
theorem ok0 : OkB ⟨0, 0, [], [], [], []⟩ := by
  constructor <;> simp
theorem valid0 : validS ⟨0, 0, [], [], [], []⟩ = true := by decide +kernel
noncomputable def con18z : PCon Tryd.prog where
  f := 18
  c := fun
    | [.agg [.lit (.int .i64 0), .lit (.int .i64 0), .sl _ 6 [], .sl _ 2 [], .sl _ 2 [], .sl _ 3 []]] => some (True, .lit (.bool true))
    | _ => none
  ok := by
    intro args p r hc hp
    split at hc
    · cases hc
      have h := bvalid_pc ok0 ⟨by decide, by decide⟩
      rw [valid0] at h
      exact PC.weak h ⟨LeA.agg ⟨LeA.refl _, LeA.refl _, LeA.full _ _ _, LeA.full _ _ _, LeA.full _ _ _, LeA.full _ _ _, trivial⟩, trivial⟩
    · cases hc
  fk := fk18
theorem con18z_f : con18z.f = 18 := rfl
theorem con18z_c {a b c d : Bool} : con18z.c [.agg [.lit (.int .i64 0), .lit (.int .i64 0), .sl a 6 [], .sl b 2 [], .sl c 2 [], .sl d 3 []]] = some (True, .lit (.bool true)) := rfl
attribute [go_sem] con17_f con17_c con18z_f con18z_c
theorem match0 : matchV insL = .tup [.sl false 1 (ints .i64 [0, 2, 2]), .lit (.bool true)] := by
  unfold matchV; rw [show matchS insL = some [0, 2, 2] by decide +kernel]
def elsI : Ins := ⟨12, ByteArray.empty, 0, 0, 0, 0⟩
theorem match1 : matchV [elsI] = .tup [.sl false 1 [], .lit (.bool false)] := by
  unfold matchV; rw [show matchS [elsI] = none by decide +kernel]
theorem els_of {b : Bool} : opsOf (.sl b 6 [.agg [.lit (.int .i64 12), .lit (.string (bs [])), .lit (.int .i64 0), .lit (.int .i64 0), .lit (.int .i64 0), .lit (.int .i64 0)]]) = some [elsI] := rfl
theorem insL_len : insL.length = 3 := rfl
theorem ins_at : opV (insL.getD 1 nilI) = .agg [.lit (.int .i64 10), .lit (.string (bs [])), .lit (.int .i64 0), .lit (.int .i64 2), .lit (.int .i64 1), .lit (.int .i64 1)] := rfl
theorem k022 {b : Bool} : slK .i64 (.sl b 1 [.lit (.int .i64 0), .lit (.int .i64 2), .lit (.int .i64 2)]) = some [0, 2, 2] := rfl
attribute [go_sem] con10_f con10_c k022
noncomputable def Ya : Env := envJ (P := Tryd.prog) jkV zer (fun _ => false) (fun _ => false) [con17, con8, con10, con18z] []
theorem Ya_ok : EnvOk Tryd.prog Ya := envJOk zer_ok
set_option maxHeartbeats 8000000 in
theorem awake_pc : PC Tryd.prog 6 [] (.lit (.bool true)) := by
  have hn : (([] : List UInt8) == []) = true := rfl
  have h3 : (((3 : Nat) : Int) == 3) = true := rfl
  have h022 : decide (([0, 2, 2] : List Int) = [0, 2, 2]) = true := rfl
  have hl1 : ([0, 2, 2] : List Int).length ≤ 1000000 := by decide
  have hl2 : insL.length ≤ 1000000 := by decide
  have hl3 : [elsI].length ≤ 1000000 := by decide
  refine pcR Ya_ok (kp6) Tryd.func6 [.tmp 0] (h := fun KF => ?_)
  unfold Ya
  repeat' (first
   | (with_reducible first | refine nx ?_ | refine t_seq fun K => ?_ | refine t_br (fun hc => ?_) fun hc => ?_ | refine t_bx ?_ | apply And.intro | intro vr)
   | ((with_reducible first | refine ny ?_ | refine t_dwh (h := fun K KL => ?_)); intros; simp only [go_sem, kp6, geff, match0, els_of, match1, insL_len, ins_at, h3, h022, hn, yes]))
  all_goals try exact nd
  all_goals (refine nl ?_; simp only [go_sem])
  exact LeA.refl _
end Go.Proofs.YtohiagaclfaolaaDoor.Tx

/- Instructions as arguments; few of them; the law of Match. -/
namespace Go.Proofs.YtohiagaclfaolaaDoor.Tx
open Go.Proofs.YtohiagaclfaolaaDoor
open Go Go.Fw Bm
set_option maxRecDepth 20000
theorem ft32 : fieldTs Tryd.prog 32 = [3, 9, 3, 3, 3, 3] := by kernel_rfl
theorem shv_op {x : AV} (h : ShV Tryd.prog 32 x) : ∃ o : Ins, x = opV o ∧ o.prim.size ≤ maxLen := by
  obtain ⟨c, rfl, hc⟩ := shv_agg ag32 h
  obtain ⟨xss, h1, h2, h3⟩ := sh_fields (by simp) ft32 hc
  match xss, h2 with
  | [p, q, r, s, t, u], _ =>
    obtain ⟨k, rfl, _⟩ := sh_int u3 (h3 0 3 p rfl rfl)
    obtain ⟨m, rfl, hm⟩ := sh_str u9 (h3 1 9 q rfl rfl)
    obtain ⟨a, rfl, _⟩ := sh_int u3 (h3 2 3 r rfl rfl)
    obtain ⟨b, rfl, _⟩ := sh_int u3 (h3 3 3 s rfl rfl)
    obtain ⟨c, rfl, _⟩ := sh_int u3 (h3 4 3 t rfl rfl)
    obtain ⟨d, rfl, _⟩ := sh_int u3 (h3 5 3 u rfl rfl)
    exact ⟨⟨k, m, a, b, c, d⟩, by rw [h1]; rfl, hm⟩
theorem list_ops : ∀ {ys : List AV}, (∀ y ∈ ys, ∃ o : Ins, y = opV o ∧ o.prim.size ≤ maxLen) → ∃ l : List Ins, ys = opsV l ∧ ∀ o ∈ l, o.prim.size ≤ maxLen
  | [], _ => ⟨[], rfl, fun r h => by cases h⟩
  | y :: ys, h => by
    obtain ⟨r, rfl, hr⟩ := h y (by simp)
    obtain ⟨l, rfl, hl⟩ := list_ops (ys := ys) fun z hz => h z (by simp [hz])
    exact ⟨r :: l, rfl, fun q hq => (List.mem_cons.1 hq).elim (fun e => by rw [e]; exact hr) (hl q)⟩
def fewO (n : Int) (l : List Ins) : Bool := (l.all fun x => !decide ((x.prim.size : Int) > 20)) && decide ((l.length : Int) ≤ n)
noncomputable def H0 : Env := envJ (P := Tryd.prog) jkV zer (fun _ => false) (fun _ => false) [] []
theorem H0_ok : EnvOk Tryd.prog H0 := envJOk zer_ok
set_option maxHeartbeats 4000000 in
theorem fewo_pc {l : List Ins} {n : Int} (hl : l.length ≤ maxLen) (hp : ∀ o ∈ l, o.prim.size ≤ maxLen) : PC Tryd.prog 7 [.sl false 6 (opsV l), .lit (.int .i64 n)] (.lit (.bool (fewO n l))) := by
  unfold maxLen at hl hp
  generalize hR : fewO n l = R
  unfold fewO at hR
  refine pcR H0_ok (kp7) Tryd.func7 [.tmp 4] (h := fun KF => ?_)
  unfold H0
  repeat' (first
   | (with_reducible first | refine nx ?_ | refine t_seq fun K => ?_ | refine t_br (fun hc => ?_) fun hc => ?_ | refine t_bx ?_ | apply And.intro | intro vr)
   | ((with_reducible first | refine ny ?_ | refine t_dwh (h := fun K KL => ?_)); intros; simp only [go_sem, kp7, geff]))
  all_goals try exact nd
  refine t_loopF (ι := { i : Nat // i ≤ l.length ∧ (((l.drop i).all fun x => !decide ((x.prim.size : Int) > 20)) && decide ((l.length : Int) ≤ n)) = R }) (fun i => [(5, .lit (.int .i64 i.1))]) (fun i => []) (fun i => l.length - i.1) ⟨0, by omega, hR⟩ ?_ ?_
  · exact lf
  rintro ⟨i, hi, hF⟩ K0
  rcases Nat.lt_or_ge i l.length with hc | hc
  · have g3 : decide ((i : Int) < (l.length : Int)) = true := decide_eq_true (by omega)
    rw [drop_getI hc, List.all_cons] at hF
    have hps := hp _ (show l.getD i nilI ∈ l by rw [List.getD_eq_getElem?_getD, List.getElem?_eq_getElem hc]; exact List.getElem_mem _)
    generalize hx : l.getD i nilI = x at hF hps
    obtain ⟨q, p, a, b, c, d⟩ := x
    simp only at hF hps
    cases hb : decide ((p.size : Int) > 20) with
    | true =>
      rw [hb] at hF
      repeat' (first
       | (with_reducible first | refine nx ?_ | refine t_seq fun K => ?_ | refine t_br (fun hc => ?_) fun hc => ?_ | refine t_bx ?_ | apply And.intro | intro vr)
       | ((with_reducible first | refine ny ?_ | refine t_dwh (h := fun K KL => ?_)); intros; simp only [go_sem, kp7, geff, g3, hx, hb, Int.toNat_natCast, yes]))
      all_goals try exact nd
      all_goals (refine nl ?_; simp only [go_sem])
      exact LeA.of_eq (by rw [← hF]; rfl)
    | false =>
      rw [hb, Bool.not_false, Bool.true_and] at hF
      repeat' (first
       | (with_reducible first | refine nx ?_ | refine t_seq fun K => ?_ | refine t_br (fun hc => ?_) fun hc => ?_ | refine t_bx ?_ | apply And.intro | intro vr)
       | ((with_reducible first | refine ny ?_ | refine t_dwh (h := fun K KL => ?_)); intros; simp only [go_sem, kp7, geff, g3, hx, hb, Int.toNat_natCast, yes]))
      all_goals try exact nd
      exact ⟨⟨i + 1, by omega, hF⟩, wf, lf⟩
  · have g3 : decide ((i : Int) < (l.length : Int)) = false := decide_eq_false (by omega)
    rw [List.drop_eq_nil_of_le hc] at hF
    repeat' (first
     | (with_reducible first | refine nx ?_ | refine t_seq fun K => ?_ | refine t_br (fun hc => ?_) fun hc => ?_ | refine t_bx ?_ | apply And.intro | intro vr)
     | ((with_reducible first | refine ny ?_ | refine t_dwh (h := fun K KL => ?_)); intros; simp only [go_sem, kp7, geff, g3]))
    all_goals try exact nd
    all_goals (refine nl ?_; simp only [go_sem])
    exact LeA.of_eq (by rw [← hF]; rfl)
structure FewP (l : List Ins) : Prop where
  len : l.length ≤ maxLen
  prims : ∀ o ∈ l, o.prim.size ≤ maxLen
theorem fewo_pc2 {l : List Ins} {n : Int} (h : FewP l) : PC Tryd.prog 7 [.sl false 6 (opsV l), .lit (.int .i64 n)] (.lit (.bool (fewO n l))) := fewo_pc h.len h.prims
noncomputable def con7 : PCon Tryd.prog where
  f := 7
  c := fun
    | [xl, .lit (.int .i64 n)] => match opsOf xl with | some l => some (FewP l, .lit (.bool (fewO n l))) | _ => none
    | _ => none
  ok := by
    intro args p r hc hp
    split at hc
    · split at hc
      · rename_i hl
        cases hc
        exact PC.weak (fewo_pc2 hp) ⟨opsOf_le hl, LeA.refl _, trivial⟩
      · cases hc
    · cases hc
  fk := fk7
theorem con7_f : con7.f = 7 := rfl
theorem con7_c {xl : AV} {n : Int} : con7.c [xl, .lit (.int .i64 n)] = match opsOf xl with | some l => some (FewP l, .lit (.bool (fewO n l))) | _ => none := rfl
attribute [go_sem] con7_f con7_c
noncomputable def con6 : PCon Tryd.prog where
  f := 6
  c := fun
    | [] => some (True, .lit (.bool true))
    | _ => none
  ok := by
    intro args p r hc hp
    split at hc
    · cases hc; exact awake_pc
    · cases hc
  fk := fk6
theorem con6_f : con6.f = 6 := rfl
theorem con6_c  : con6.c [] = some (True, .lit (.bool true)) := rfl
attribute [go_sem] con6_f con6_c
theorem few_len {n : Nat} {l : List Ins} (h : fewO n l = true) : l.length ≤ n := by
  simp only [fewO, Bool.and_eq_true, decide_eq_true_eq] at h; omega
end Go.Proofs.YtohiagaclfaolaaDoor.Tx

/- The law of Ops. -/
namespace Go.Proofs.YtohiagaclfaolaaDoor.Tx
open Go.Proofs.YtohiagaclfaolaaDoor
open Go Go.Fw Bm
set_option maxRecDepth 20000
theorem right_inv {x : Ins} {r : Int} (h : rightS x r = true) : ∃ f, formS x = some f ∧ (∀ i, i < 4 → oprOk f r i (opI x i) = true) := by
  unfold rightS at h
  cases hf : formS x with
  | none => rw [hf] at h; cases h
  | some f =>
    rw [hf] at h
    simp only [Bool.and_eq_true] at h
    obtain ⟨⟨_, ⟨⟨⟨h0, h1⟩, h2⟩, h3⟩⟩, _⟩ := h
    refine ⟨f, rfl, fun i hi => ?_⟩
    match i, hi with
    | 0, _ => exact h0
    | 1, _ => exact h1
    | 2, _ => exact h2
    | 3, _ => exact h3
theorem oprOk_reg {f : List Bool} {r n : Int} {i : Nat} (h : oprOk f r i n = true) (hf : f.getD i false = true) : 0 ≤ n ∧ n < r := by
  unfold oprOk at h
  have hl : ¬ i ≥ f.length := fun hl => by
    rw [List.getD_eq_getElem?_getD, List.getElem?_eq_none hl] at hf; cases hf
  rw [if_neg hl, if_pos hf] at h
  simpa using h
theorem oprOk_mono {f : List Bool} {r m n : Int} {i : Nat} (h : oprOk f r i n = true) (hm : r ≤ m) : oprOk f m i n = true := by
  unfold oprOk at h ⊢
  split at h
  · rename_i hl; rw [if_pos hl]; exact h
  · rename_i hl
    rw [if_neg hl]
    split at h
    · rename_i hf
      rw [if_pos hf]
      simp only [decide_eq_true_eq] at h ⊢
      omega
    · rename_i hf; rw [if_neg hf]
theorem right_mono {x : Ins} {r m : Int} (h : rightS x r = true) (hm : r ≤ m) : rightS x m = true := by
  unfold rightS at h ⊢
  cases hf : formS x with
  | none => rw [hf] at h; cases h
  | some f =>
    rw [hf] at h
    simp only [Bool.and_eq_true] at h ⊢
    obtain ⟨⟨hp, ⟨⟨⟨h0, h1⟩, h2⟩, h3⟩⟩, hr⟩ := h
    exact ⟨⟨hp, ⟨⟨⟨oprOk_mono h0 hm, oprOk_mono h1 hm⟩, oprOk_mono h2 hm⟩, oprOk_mono h3 hm⟩⟩, hr⟩
theorem pick_mem {w : Bool} {k : Int} : ∀ {f : List Bool} {l : List Int} {i : Nat}, k ∈ pickR w i f l → ∃ j, j < l.length ∧ f.getD j false = true ∧ k = l.getD j 0
  | true :: f, n :: l, i, h => by
    simp only [pickR] at h
    split at h
    · rcases List.mem_cons.1 h with rfl | h
      · exact ⟨0, by simp, rfl, rfl⟩
      · obtain ⟨j, h1, h2, h3⟩ := pick_mem h
        exact ⟨j + 1, by simpa using h1, by simpa using h2, by simpa using h3⟩
    · obtain ⟨j, h1, h2, h3⟩ := pick_mem h
      exact ⟨j + 1, by simpa using h1, by simpa using h2, by simpa using h3⟩
  | false :: f, n :: l, i, h => by
    simp only [pickR] at h
    obtain ⟨j, h1, h2, h3⟩ := pick_mem h
    exact ⟨j + 1, by simpa using h1, by simpa using h2, by simpa using h3⟩
  | [], l, i, h => by cases l <;> simp [pickR] at h
  | true :: f, [], i, h => by simp [pickR] at h
  | false :: f, [], i, h => by simp [pickR] at h
theorem reads_in {x : Ins} {r : Int} (h : rightS x r = true) : ∀ k ∈ readsS x, 0 ≤ k ∧ k < r := by
  obtain ⟨f, hf, ho⟩ := right_inv h
  intro k hk
  unfold readsS at hk
  rw [hf] at hk
  obtain ⟨j, h1, h2, h3⟩ := pick_mem hk
  have := oprOk_reg (ho j (by simpa [oprs] using h1)) h2
  rw [show opI x j = (oprs x).getD j 0 from rfl, ← h3] at this
  exact this
theorem wrt_form {x : Ins} {f : List Bool} (hw : wrtB x.code = true) (hf : formS x = some f) : f.getD 0 false = true := by
  obtain ⟨k, p, a, b, c, d⟩ := x
  simp only [wrtB, Bool.or_eq_true, decide_eq_true_eq] at hw
  have : k = 1 ∨ k = 2 ∨ k = 3 ∨ k = 4 ∨ k = 5 ∨ k = 6 ∨ k = 8 ∨ k = 10 ∨ k = 14 := by omega
  rcases this with rfl | rfl | rfl | rfl | rfl | rfl | rfl | rfl | rfl
  case inr.inr.inr.inr.inl =>
    simp only [formS] at hf
    cases hT : El.typesS p with
    | none => simp [hT] at hf
    | some q => simp [hT] at hf; subst hf; rw [Nat.add_comm]; rfl
  all_goals (simp [formS] at hf; subst hf; rfl)
theorem writes_in {x : Ins} {r : Int} (h : rightS x r = true) (hw : wrtB x.code = true) : 0 ≤ x.a ∧ x.a < r := by
  obtain ⟨f, hf, ho⟩ := right_inv h
  exact oprOk_reg (ho 0 (by omega)) (wrt_form hw hf)
noncomputable def Ye : Env := envJ (P := Tryd.prog) jkV zer (fun _ => false) (fun _ => false) [con6, con10, con11, con12, con13, con14, con15, con16] []
theorem Ye_ok : EnvOk Tryd.prog Ye := envJOk zer_ok
theorem self_neq (b : Bool) : (b != b) = false := by cases b <;> rfl
theorem pick_len {w : Bool} : ∀ {f : List Bool} {l : List Int} {i : Nat}, (pickR w i f l).length ≤ l.length
  | true :: f, n :: l, i => by
    simp only [pickR]
    split
    · simpa using pick_len (f := f) (l := l) (i := i + 1)
    · have := pick_len (w := w) (f := f) (l := l) (i := i + 1); simp only [List.length_cons]; omega
  | false :: f, n :: l, i => by
    simp only [pickR]
    have := pick_len (w := w) (f := f) (l := l) (i := i + 1); simp only [List.length_cons]; omega
  | [], l, i => by cases l <;> simp [pickR]
  | true :: f, [], i => by simp [pickR]
  | false :: f, [], i => by simp [pickR]
theorem reads_len (x : Ins) : (readsS x).length ≤ 4 := by
  unfold readsS
  split
  · simp
  · exact pick_len
set_option maxHeartbeats 8000000 in
theorem law5_pc {x : Ins} {r m : Int} (hp : x.prim.size ≤ maxLen) : PC Tryd.prog 5 [opV x, .lit (.int .i64 r), .lit (.int .i64 m)] (.lit (.bool true)) := by
  unfold maxLen at hp
  have hm := fun h hm => right_mono (x := x) (r := r) (m := m) h hm
  have hri := fun h => reads_in (x := x) (r := r) h
  have hwi := fun h => writes_in (x := x) (r := r) h
  have hl := reads_len x
  have hl6 : (readsS x).length ≤ 1000000 := by omega
  have hRl : (ints .i64 (readsS x)).length = (readsS x).length := ints_length _ _
  have hwr : wrtV x = .tup [.lit (.int .i64 (if wrtB x.code = true then x.a else 0)), .lit (.bool (wrtB x.code))] := rfl
  obtain ⟨k, p, a, b, c, d⟩ := x
  simp only at hp hwi hwr
  simp only [opV]
  generalize hRS : readsS ⟨k, p, a, b, c, d⟩ = RS at *
  generalize hwv : (if wrtB k = true then a else 0) = wv at *
  generalize hwb : wrtB k = wb at *
  have hss : decide (RS = RS) = true := by simp
  have hn1 : (wv != wv) = false := by simp
  cases hb : decide ((p.size : Int) > 20) with
  | true =>
    refine pcR Ye_ok (kp5) Tryd.func5 [.tmp 6] (h := fun KF => ?_)
    unfold Ye
    repeat' (first
     | (with_reducible first | refine nx ?_ | refine t_seq fun K => ?_ | refine t_br (fun hc => ?_) fun hc => ?_ | refine t_bx ?_ | apply And.intro | intro vr)
     | ((with_reducible first | refine ny ?_ | refine t_dwh (h := fun K KL => ?_)); intros; simp only [go_sem, kp5, geff, hb, yes]))
    all_goals try exact nd
    all_goals (refine nl ?_; simp only [go_sem])
    exact LeA.refl _
  | false =>
    cases hR : rightS ⟨k, p, a, b, c, d⟩ r with
    | false =>
      refine pcR Ye_ok (kp5) Tryd.func5 [.tmp 6] (h := fun KF => ?_)
      unfold Ye
      repeat' (first
       | (with_reducible first | refine nx ?_ | refine t_seq fun K => ?_ | refine t_br (fun hc => ?_) fun hc => ?_ | refine t_bx ?_ | apply And.intro | intro vr)
       | ((with_reducible first | refine ny ?_ | refine t_dwh (h := fun K KL => ?_)); intros; simp only [go_sem, kp5, geff, hb, hR, hRS, hwr, hss, hn1, self_neq, yes]))
      all_goals try exact nd
      all_goals (refine nl ?_; simp only [go_sem])
      exact LeA.refl _
    | true =>
      have hri := hri hR
      have hwi := hwi hR
      have hm := hm hR
      refine pcR Ye_ok (kp5) Tryd.func5 [.tmp 6] (h := fun KF => ?_)
      unfold Ye
      repeat' (first
       | (with_reducible first | refine nx ?_ | refine t_seq fun K => ?_ | refine t_br (fun hc => ?_) fun hc => ?_ | refine t_bx ?_ | apply And.intro | intro vr)
       | ((with_reducible first | refine ny ?_ | refine t_dwh (h := fun K KL => ?_)); intros; simp only [go_sem, kp5, geff, hb, hR, hRS, hwr, hss, hn1, self_neq, hRl, yes]))
      all_goals try exact nd
      refine t_loopF (ι := { i : Nat // i ≤ RS.length }) (fun i => [(62, .lit (.int .i64 i.1))]) (fun i => [.box 32 [.lit (.int .i64 k), .lit (.string p), .lit (.int .i64 a), .lit (.int .i64 b), .lit (.int .i64 c), .lit (.int .i64 d)]]) (fun i => RS.length - i.1) ⟨0, by omega⟩ ?_ ?_
      · exact lf
      rintro ⟨i, hi⟩ K0
      rcases Nat.lt_or_ge i RS.length with hc | hc
      · have g3 : decide ((i : Int) < (RS.length : Int)) = true := decide_eq_true (by omega)
        have h7 := hri _ (mem_getD hc)
        have g4 : decide (RS.getD i 0 < 0) = false := decide_eq_false (by omega)
        have g5 : decide (RS.getD i 0 ≥ r) = false := decide_eq_false (by omega)
        repeat' (first
         | (with_reducible first | refine nx ?_ | refine t_seq fun K => ?_ | refine t_br (fun hc => ?_) fun hc => ?_ | refine t_bx ?_ | apply And.intro | intro vr)
         | ((with_reducible first | refine ny ?_ | refine t_dwh (h := fun K KL => ?_)); intros; simp only [go_sem, kp5, geff, g3, g4, g5, Int.toNat_natCast, yes]))
        all_goals try exact nd
        exact ⟨⟨i + 1, by omega⟩, wf, lf⟩
      · have g3 : decide ((i : Int) < (RS.length : Int)) = false := decide_eq_false (by omega)
        cases wb with
        | true =>
          have h8 := hwi rfl
          have h9 : wv = a := by rw [← hwv]; rfl
          subst h9
          have g6 : decide (wv ≥ 0) = true := decide_eq_true (by omega)
          have g7 : decide (wv < r) = true := decide_eq_true (by omega)
          cases hmm : decide (m < r) with
          | true =>
            repeat' (first
             | (with_reducible first | refine nx ?_ | refine t_seq fun K => ?_ | refine t_br (fun hc => ?_) fun hc => ?_ | refine t_bx ?_ | apply And.intro | intro vr)
             | ((with_reducible first | refine ny ?_ | refine t_dwh (h := fun K KL => ?_)); intros; simp only [go_sem, kp5, geff, g3, g6, g7, hmm, yes]))
            all_goals try exact nd
            all_goals (refine nl ?_; simp only [go_sem])
            exact LeA.refl _
          | false =>
            have hm2 := hm (by simpa using hmm)
            repeat' (first
             | (with_reducible first | refine nx ?_ | refine t_seq fun K => ?_ | refine t_br (fun hc => ?_) fun hc => ?_ | refine t_bx ?_ | apply And.intro | intro vr)
             | ((with_reducible first | refine ny ?_ | refine t_dwh (h := fun K KL => ?_)); intros; simp only [go_sem, kp5, geff, g3, g6, g7, hmm, hm2, yes]))
            all_goals try exact nd
            all_goals (refine nl ?_; simp only [go_sem])
            exact LeA.refl _
        | false =>
          cases hmm : decide (m < r) with
          | true =>
            repeat' (first
             | (with_reducible first | refine nx ?_ | refine t_seq fun K => ?_ | refine t_br (fun hc => ?_) fun hc => ?_ | refine t_bx ?_ | apply And.intro | intro vr)
             | ((with_reducible first | refine ny ?_ | refine t_dwh (h := fun K KL => ?_)); intros; simp only [go_sem, kp5, geff, g3, hmm, yes]))
            all_goals try exact nd
            all_goals (refine nl ?_; simp only [go_sem])
            exact LeA.refl _
          | false =>
            have hm2 := hm (by simpa using hmm)
            repeat' (first
             | (with_reducible first | refine nx ?_ | refine t_seq fun K => ?_ | refine t_br (fun hc => ?_) fun hc => ?_ | refine t_bx ?_ | apply And.intro | intro vr)
             | ((with_reducible first | refine ny ?_ | refine t_dwh (h := fun K KL => ?_)); intros; simp only [go_sem, kp5, geff, g3, hmm, hm2, yes]))
            all_goals try exact nd
            all_goals (refine nl ?_; simp only [go_sem])
            exact LeA.refl _
end Go.Proofs.YtohiagaclfaolaaDoor.Tx

/- Matching instructions put into one another: the plain theory. -/
namespace Go.Proofs.YtohiagaclfaolaaDoor.Tx
open Go.Proofs.YtohiagaclfaolaaDoor
open Go Go.Fw Bm
/-- One instruction: what matches up to here, the open blocks (index and code). -/
def stepR (c : Int) (i : Nat) (out : List Int) (st : List (Nat × Int)) : Option (List Int × List (Nat × Int)) :=
  if c = 10 ∨ c = 11 then (if st.length ≥ 40 then none else some (out ++ [(i : Int)], (i, c) :: st))
  else if c = 12 then (match st with
    | [] => none
    | (j, cj) :: st' => if cj = 11 then some ((out ++ [(i : Int)]).set j i, (i, c) :: st') else none)
  else if c = 13 then (match st with
    | [] => none
    | (j, _) :: st' => some ((out ++ [(i : Int)]).set j i, st'))
  else some (out ++ [(i : Int)], st)
def runR : List Int → Nat → List Int → List (Nat × Int) → Option (List Int × List (Nat × Int))
  | [], _, out, st => some (out, st)
  | c :: l, i, out, st => (stepR c i out st).bind fun p => runR l (i + 1) p.1 p.2
def finR : Option (List Int × List (Nat × Int)) → Option (List Int)
  | some (o, []) => some o
  | _ => none
def cds (l : List Ins) : List Int := l.map Ins.code
theorem matchG_run {ops : List Ins} : ∀ (l : List Ins) (i : Nat) (out : List Int) (st : List Nat), ops.drop i = l →
    matchG ops l i out st = finR (runR (cds l) i out (st.map fun j => (j, (ops.getD j nilI).code)))
  | [], i, out, [], _ => rfl
  | [], i, out, _ :: _, _ => rfl
  | x :: l, i, out, st, h => by
    have hl : ops.drop (i + 1) = l := by
      have := congrArg List.tail h
      simpa [List.tail_drop] using this
    have hx : ops.getD i nilI = x := by
      have := congrArg List.head? h
      rw [List.head?_drop] at this
      rw [List.getD_eq_getElem?_getD, this]; rfl
    show matchG ops (x :: l) i out st = finR ((stepR x.code i out _).bind _)
    unfold matchG stepR
    by_cases h1 : x.code = 10 ∨ x.code = 11
    · rw [if_pos h1, if_pos h1]
      by_cases h2 : st.length ≥ 40
      · rw [if_pos h2, if_pos (by simpa using h2)]; rfl
      · rw [if_neg h2, if_neg (by simpa using h2), matchG_run l (i + 1) _ _ hl]
        simp only [List.map_cons, hx]; rfl
    · rw [if_neg h1, if_neg h1]
      by_cases h2 : x.code = 12
      · rw [if_pos h2, if_pos h2]
        cases st with
        | nil => rfl
        | cons j st =>
          simp only [List.map_cons]
          by_cases h3 : (ops.getD j nilI).code = 11
          · rw [if_pos h3, if_pos h3, matchG_run l (i + 1) _ _ hl]
            simp only [List.map_cons, hx]; rfl
          · rw [if_neg h3, if_neg h3]; rfl
      · rw [if_neg h2, if_neg h2]
        by_cases h3 : x.code = 13
        · rw [if_pos h3, if_pos h3]
          cases st with
          | nil => rfl
          | cons j st =>
            simp only [List.map_cons]
            rw [matchG_run l (i + 1) _ _ hl]; rfl
        · rw [if_neg h3, if_neg h3, matchG_run l (i + 1) _ _ hl]; rfl
theorem matchS_run {ops : List Ins} (h : ops.length ≤ 5000) : matchS ops = finR (runR (cds ops) 0 [] []) := by
  unfold matchS
  rw [if_neg (by omega), matchG_run ops 0 [] [] rfl]; rfl
theorem finR_some {r : Option (List Int × List (Nat × Int))} {m : List Int} (h : finR r = some m) : r = some (m, []) := by
  unfold finR at h
  split at h
  · cases h; rfl
  · cases h
theorem runR_app : ∀ (a b : List Int) (i : Nat) (out : List Int) (st : List (Nat × Int)), runR (a ++ b) i out st = (runR a i out st).bind fun p => runR b (i + a.length) p.1 p.2
  | [], b, i, out, st => rfl
  | c :: a, b, i, out, st => by
    show (stepR c i out st).bind _ = ((stepR c i out st).bind _).bind _
    cases stepR c i out st with
    | none => rfl
    | some p =>
      show runR (a ++ b) (i + 1) p.1 p.2 = (runR a (i + 1) p.1 p.2).bind _
      rw [runR_app a b (i + 1) p.1 p.2]
      simp only [List.length_cons, Nat.add_assoc, Nat.add_comm 1]
theorem stepR_len {c : Int} {i : Nat} {out o' : List Int} {st s' : List (Nat × Int)} (h : stepR c i out st = some (o', s')) : o'.length = out.length + 1 ∧ s'.length ≤ st.length + 1 := by
  unfold stepR at h
  repeat' split at h
  all_goals first | cases h; simp | cases h
  all_goals (try simp)
  all_goals omega
theorem runR_len : ∀ {l : List Int} {i : Nat} {out o' : List Int} {st s' : List (Nat × Int)}, runR l i out st = some (o', s') → o'.length = out.length + l.length ∧ s'.length ≤ st.length + l.length
  | [], i, out, o', st, s', h => by cases h; simp
  | c :: l, i, out, o', st, s', h => by
    simp only [runR, Option.bind_eq_some_iff] at h
    obtain ⟨⟨o1, s1⟩, h1, h2⟩ := h
    have := stepR_len h1
    have := runR_len h2
    simp only [List.length_cons] at *
    omega
/-! In another place, over other open blocks. -/
def shO (k : Nat) (o : List Int) : List Int := o.map fun v => v + (k : Int)
def shS (k : Nat) (s : List (Nat × Int)) : List (Nat × Int) := s.map fun p => (k + p.1, p.2)
theorem put_shift {out o : List Int} {k j x : Nat} (hk : out.length = k) : ((out ++ shO k o) ++ [((k + j : Nat) : Int)]).set (k + x) ((k + j : Nat) : Int) = out ++ shO k ((o ++ [(j : Int)]).set x j) := by
  rw [List.append_assoc, List.set_append_right _ _ (by omega), hk, show k + x - k = x by omega]
  congr 1
  have e : shO k o ++ [((k + j : Nat) : Int)] = shO k (o ++ [(j : Int)]) := by simp [shO, Int.add_comm]
  rw [e]
  simp only [shO, List.map_set]
  congr 1
  omega
theorem app_shift {out o : List Int} {k j : Nat} : (out ++ shO k o) ++ [((k + j : Nat) : Int)] = out ++ shO k (o ++ [(j : Int)]) := by
  simp [shO, Int.add_comm]
theorem stepR_shift {c : Int} {j k : Nat} {o o' out : List Int} {s s' st : List (Nat × Int)} (h : stepR c j o s = some (o', s')) (hk : out.length = k) :
    stepR c (k + j) (out ++ shO k o) (shS k s ++ st) = some (out ++ shO k o', shS k s' ++ st) ∨ (stepR c (k + j) (out ++ shO k o) (shS k s ++ st) = none ∧ 40 ≤ s.length + st.length) := by
  unfold stepR at h ⊢
  by_cases h1 : c = 10 ∨ c = 11
  · rw [if_pos h1] at h ⊢
    split at h
    · cases h
    · cases h
      by_cases h2 : (shS k s ++ st).length ≥ 40
      · rw [if_pos h2]; right; exact ⟨rfl, by simpa [shS] using h2⟩
      · rw [if_neg h2, app_shift]; left; simp [shS]
  · rw [if_neg h1] at h ⊢
    by_cases h2 : c = 12
    · rw [if_pos h2] at h ⊢
      cases s with
      | nil => cases h
      | cons p s =>
        obtain ⟨x, cx⟩ := p
        simp only at h
        split at h
        · rename_i h3
          cases h
          left
          simp only [shS, List.map_cons, List.cons_append]
          rw [if_pos h3, put_shift hk]
        · cases h
    · rw [if_neg h2] at h ⊢
      by_cases h3 : c = 13
      · rw [if_pos h3] at h ⊢
        cases s with
        | nil => cases h
        | cons p s =>
          obtain ⟨x, cx⟩ := p
          cases h
          left
          simp only [shS, List.map_cons, List.cons_append]
          rw [put_shift hk]
      · rw [if_neg h3] at h ⊢
        cases h
        left
        rw [app_shift]
theorem runR_shift : ∀ {l : List Int} {j k : Nat} {o o' out : List Int} {s s' st : List (Nat × Int)}, runR l j o s = some (o', s') → out.length = k →
    runR l (k + j) (out ++ shO k o) (shS k s ++ st) = some (out ++ shO k o', shS k s' ++ st) ∨ (runR l (k + j) (out ++ shO k o) (shS k s ++ st) = none ∧ 40 < s.length + st.length + l.length)
  | [], j, k, o, o', out, s, s', st, h, hk => by cases h; left; rfl
  | c :: l, j, k, o, o', out, s, s', st, h, hk => by
    simp only [runR, Option.bind_eq_some_iff] at h
    obtain ⟨⟨o1, s1⟩, h1, h2⟩ := h
    have hl := (stepR_len h1).2
    rcases stepR_shift (st := st) h1 hk with e | ⟨e, h4⟩
    · simp only [runR, e, Option.bind_some]
      rcases runR_shift (st := st) h2 hk with q | ⟨q, h5⟩
      · left; rw [Nat.add_assoc]; exact q
      · right
        refine ⟨by rw [Nat.add_assoc]; exact q, by have h6 : 40 < s1.length + st.length + l.length := h5; simp only [List.length_cons]; omega⟩
    · right
      simp only [runR, e, Option.bind_none, List.length_cons, true_and]
      omega
/-! With a row put in. -/
def upN (k n v : Nat) : Nat := if k ≤ v then v + n else v
def upI (k n : Nat) (v : Int) : Int := if (k : Int) ≤ v then v + (n : Int) else v
theorem upI_nat (k n v : Nat) : upI k n (v : Int) = ((upN k n v : Nat) : Int) := by
  unfold upI upN
  by_cases h : k ≤ v
  · rw [if_pos h, if_pos (by omega)]; omega
  · rw [if_neg h, if_neg (by omega)]
def insO (k n : Nat) (mm out : List Int) : List Int := (out.take k).map (upI k n) ++ mm ++ (out.drop k).map (upI k n)
def upS (k n : Nat) (s : List (Nat × Int)) : List (Nat × Int) := s.map fun p => (upN k n p.1, p.2)
theorem ins_app {k n i : Nat} {mm out : List Int} (h : k ≤ out.length) (hi : k ≤ i) : insO k n mm out ++ [((i + n : Nat) : Int)] = insO k n mm (out ++ [(i : Int)]) := by
  unfold insO
  rw [List.take_append_of_le_length h, List.drop_append_of_le_length h, List.map_append]
  have : upI k n (i : Int) = ((i + n : Nat) : Int) := by rw [upI_nat, upN, if_pos hi]
  simp [this]
theorem ins_set {k n j : Nat} {v : Int} {mm out : List Int} (hm : mm.length = n) (hk : k ≤ out.length) (hj : j < out.length) : (insO k n mm out).set (upN k n j) (upI k n v) = insO k n mm (out.set j v) := by
  unfold insO upN
  have ht : ((out.take k).map (upI k n)).length = k := by simp; omega
  by_cases h : k ≤ j
  · rw [if_pos h, List.set_append_right _ _ (by simp only [List.length_append, ht, hm]; omega), List.take_set_of_le h]
    congr 1
    simp only [List.length_append, ht, hm]
    rw [show j + n - (k + n) = j - k by omega, ← List.map_set, List.drop_set, if_neg (by omega)]
  · rw [if_neg h, List.append_assoc, List.set_append_left _ _ (by rw [ht]; omega), ← List.append_assoc, ← List.map_set, List.take_set, List.drop_set_of_lt (by omega)]
theorem stepR_ins {c : Int} {i k n : Nat} {mm out o' : List Int} {st s' : List (Nat × Int)} (hm : mm.length = n) (hk : k ≤ i) (ho : out.length = i) (hs : ∀ p ∈ st, p.1 < i) (h : stepR c i out st = some (o', s')) :
    stepR c (i + n) (insO k n mm out) (upS k n st) = some (insO k n mm o', upS k n s') := by
  have hup : upN k n i = i + n := by unfold upN; rw [if_pos hk]
  have put : ∀ j, j < i → ((insO k n mm out) ++ [((i + n : Nat) : Int)]).set (upN k n j) ((i + n : Nat) : Int) = insO k n mm ((out ++ [(i : Int)]).set j i) := fun j hj => by
    rw [ins_app (by omega) hk, ← hup, ← upI_nat, ins_set hm (by simp; omega) (by simp; omega)]
  unfold stepR at h ⊢
  by_cases h1 : c = 10 ∨ c = 11
  · rw [if_pos h1] at h ⊢
    split at h
    · cases h
    · rename_i h2
      cases h
      rw [if_neg (by simpa [upS] using h2), ins_app (by omega) hk]
      simp [upS, hup]
  · rw [if_neg h1] at h ⊢
    by_cases h2 : c = 12
    · rw [if_pos h2] at h ⊢
      cases st with
      | nil => cases h
      | cons p s =>
        obtain ⟨x, cx⟩ := p
        simp only at h
        split at h
        · rename_i h3
          cases h
          simp only [upS, List.map_cons]
          rw [if_pos h3, put x (hs (x, cx) (by simp)), hup]
        · cases h
    · rw [if_neg h2] at h ⊢
      by_cases h3 : c = 13
      · rw [if_pos h3] at h ⊢
        cases st with
        | nil => cases h
        | cons p s =>
          obtain ⟨x, cx⟩ := p
          cases h
          simp only [upS, List.map_cons]
          rw [put x (hs (x, cx) (by simp))]
      · rw [if_neg h3] at h ⊢
        cases h
        rw [ins_app (by omega) hk]
theorem stepR_lt {c : Int} {i : Nat} {out o' : List Int} {st s' : List (Nat × Int)} (hs : ∀ p ∈ st, p.1 < i) (h : stepR c i out st = some (o', s')) : ∀ p ∈ s', p.1 < i + 1 := by
  intro p hp
  unfold stepR at h
  repeat' split at h
  all_goals first | cases h | skip
  · rcases List.mem_cons.1 hp with rfl | hp
    · simp
    · have := hs p hp; omega
  · rcases List.mem_cons.1 hp with rfl | hp
    · simp
    · have := hs p (by simp [hp]); omega
  · have := hs p (by simp [hp]); omega
  · have := hs p hp; omega
theorem runR_lt : ∀ {l : List Int} {i : Nat} {out o' : List Int} {st s' : List (Nat × Int)}, (∀ p ∈ st, p.1 < i) → runR l i out st = some (o', s') → ∀ p ∈ s', p.1 < i + l.length
  | [], i, out, o', st, s', hs, h => by cases h; simpa using hs
  | c :: l, i, out, o', st, s', hs, h => by
    simp only [runR, Option.bind_eq_some_iff] at h
    obtain ⟨⟨o1, s1⟩, h1, h2⟩ := h
    have := runR_lt (stepR_lt hs h1) h2
    intro p hp
    have := this p hp
    simp only [List.length_cons]; omega
theorem runR_ins : ∀ {l : List Int} {i k n : Nat} {mm out o' : List Int} {st s' : List (Nat × Int)}, mm.length = n → k ≤ i → out.length = i → (∀ p ∈ st, p.1 < i) → runR l i out st = some (o', s') →
    runR l (i + n) (insO k n mm out) (upS k n st) = some (insO k n mm o', upS k n s')
  | [], i, k, n, mm, out, o', st, s', hm, hk, ho, hs, h => by cases h; rfl
  | c :: l, i, k, n, mm, out, o', st, s', hm, hk, ho, hs, h => by
    simp only [runR, Option.bind_eq_some_iff] at h
    obtain ⟨⟨o1, s1⟩, h1, h2⟩ := h
    have hl := (stepR_len h1).1
    have e := stepR_ins hm hk ho hs h1
    simp only [runR, e, Option.bind_some]
    have := runR_ins hm (show k ≤ i + 1 by omega) (show o1.length = i + 1 by omega) (stepR_lt hs h1) h2
    rw [show i + n + 1 = i + 1 + n by omega]
    exact this
theorem cds_app (a b : List Ins) : cds (a ++ b) = cds a ++ cds b := by simp [cds]
theorem cds_len (a : List Ins) : (cds a).length = a.length := by simp [cds]
theorem stepR_vals {c : Int} {i : Nat} {out o' : List Int} {st s' : List (Nat × Int)} (ho : ∀ v ∈ out, v < (i : Int)) (h : stepR c i out st = some (o', s')) : ∀ v ∈ o', v < ((i + 1 : Nat) : Int) := by
  have app : ∀ v ∈ out ++ [(i : Int)], v < ((i + 1 : Nat) : Int) := fun v hv => by
    rcases List.mem_append.1 hv with hv | hv
    · have := ho v hv; omega
    · simp only [List.mem_cons, List.not_mem_nil, or_false] at hv; omega
  have put : ∀ j, ∀ v ∈ (out ++ [(i : Int)]).set j i, v < ((i + 1 : Nat) : Int) := fun j v hv => by
    rcases List.mem_or_eq_of_mem_set hv with hv | hv
    · exact app v hv
    · omega
  unfold stepR at h
  repeat' split at h
  all_goals first | cases h | skip
  · exact app
  · exact put _
  · exact put _
  · exact app
theorem runR_vals : ∀ {l : List Int} {i : Nat} {out o' : List Int} {st s' : List (Nat × Int)}, (∀ v ∈ out, v < (i : Int)) → runR l i out st = some (o', s') → ∀ v ∈ o', v < ((i + l.length : Nat) : Int)
  | [], i, out, o', st, s', ho, h => by cases h; simpa using ho
  | c :: l, i, out, o', st, s', ho, h => by
    simp only [runR, Option.bind_eq_some_iff] at h
    obtain ⟨⟨o1, s1⟩, h1, h2⟩ := h
    have := runR_vals (stepR_vals ho h1) h2
    intro v hv
    have := this v hv
    simp only [List.length_cons]; omega
/-- Matching instructions put into matching ones: what matches, or more than forty in all. -/
theorem insert_ok {ops more : List Ins} {m mm : List Int} {k : Nat} (h5 : ops.length + more.length ≤ 5000) (hk : k ≤ ops.length) (h1 : matchS ops = some m) (h2 : matchS more = some mm) :
    matchS (ops.take k ++ more ++ ops.drop k) = some (insO k more.length (shO k mm) m) ∨ (matchS (ops.take k ++ more ++ ops.drop k) = none ∧ 40 < ops.length + more.length) := by
  rw [matchS_run (by omega)] at h1 h2
  have h1 := finR_some h1
  have h2 := finR_some h2
  have hlk : (ops.take k).length = k := by simp; omega
  rw [matchS_run (by simp; omega), cds_app, cds_app]
  rw [show cds ops = cds (ops.take k) ++ cds (ops.drop k) by rw [← cds_app, List.take_append_drop], runR_app, Option.bind_eq_some_iff] at h1
  obtain ⟨⟨oA, sA⟩, hA, hB⟩ := h1
  have lA := runR_len hA
  simp only [List.length_nil, Nat.zero_add, cds_len, hlk] at lA hB
  have vA := runR_vals (by simp) hA
  have sA' := runR_lt (by simp) hA
  simp only [Nat.zero_add, cds_len, hlk] at vA sA'
  rw [List.append_assoc, runR_app, hA, Option.bind_some, runR_app]
  simp only [Nat.zero_add, cds_len, hlk]
  have lmm := (runR_len h2).1
  simp only [List.length_nil, Nat.zero_add, cds_len] at lmm
  have hs := runR_shift (st := sA) (out := oA) (k := k) h2 lA.1
  simp only [Nat.add_zero, shO, List.map_nil, List.append_nil, shS, List.nil_append, List.length_nil, cds_len] at hs
  rcases hs with e | ⟨e, h6⟩
  · left
    rw [e, Option.bind_some]
    have hi := runR_ins (mm := shO k mm) (n := more.length) (k := k) (by simp [shO, lmm]) (Nat.le_refl k) lA.1 sA' hB
    have e1 : insO k more.length (shO k mm) oA = oA ++ shO k mm := by
      unfold insO
      rw [List.take_of_length_le (by omega), List.drop_eq_nil_of_le (by omega), List.map_nil, List.append_nil]
      congr 1
      rw [List.map_congr_left (g := id) (fun v hv => by have := vA v hv; unfold upI; rw [if_neg (by omega)]; rfl), List.map_id]
    have e2 : upS k more.length sA = sA := by
      unfold upS
      rw [List.map_congr_left (g := id) (fun p hp => by have := sA' p hp; unfold upN; rw [if_neg (by omega)]; rfl), List.map_id]
    rw [e1, e2] at hi
    show finR (runR (cds (ops.drop k)) (k + more.length) (oA ++ shO k mm) sA) = _
    rw [hi]; rfl
  · right
    rw [e]
    refine ⟨rfl, ?_⟩
    omega
end Go.Proofs.YtohiagaclfaolaaDoor.Tx

/- Between a pair of matching instructions: matching ones. -/
namespace Go.Proofs.YtohiagaclfaolaaDoor.Tx
open Go.Proofs.YtohiagaclfaolaaDoor
open Go Go.Fw Bm
theorem getD_app_l {l z : List Int} {j : Nat} (h : j < l.length) : (l ++ z).getD j 0 = l.getD j 0 := by
  rw [List.getD_eq_getElem?_getD, List.getElem?_append_left h, ← List.getD_eq_getElem?_getD]
theorem getD_set_n {l : List Int} {x j : Nat} {v : Int} (h : x ≠ j) : (l.set x v).getD j 0 = l.getD j 0 := by
  rw [List.getD_eq_getElem?_getD, List.getElem?_set_ne h, ← List.getD_eq_getElem?_getD]
theorem getD_set_s {l : List Int} {j : Nat} {v : Int} (h : j < l.length) : (l.set j v).getD j 0 = v := by
  rw [List.getD_eq_getElem?_getD, List.getElem?_set_self h]; rfl
/-- What is closed stays. -/
theorem stepR_keep {c : Int} {i j : Nat} {out o' : List Int} {st s' : List (Nat × Int)} (ho : out.length = i) (hj : j < i) (hn : ∀ p ∈ st, p.1 ≠ j) (h : stepR c i out st = some (o', s')) : o'.getD j 0 = out.getD j 0 ∧ ∀ p ∈ s', p.1 ≠ j := by
  unfold stepR at h
  repeat' split at h
  all_goals first | cases h | skip
  · exact ⟨getD_app_l (by omega), fun p hp => (List.mem_cons.1 hp).elim (fun e => by rw [e]; simp only; omega) (hn p)⟩
  · refine ⟨by rw [getD_set_n (fun e => hn _ (List.mem_cons_self ..) e), getD_app_l (by omega)], fun p hp => (List.mem_cons.1 hp).elim (fun e => by rw [e]; simp only; omega) (fun hp => hn p (by simp [hp]))⟩
  · exact ⟨by rw [getD_set_n (fun e => hn _ (List.mem_cons_self ..) e), getD_app_l (by omega)], fun p hp => hn p (by simp [hp])⟩
  · exact ⟨getD_app_l (by omega), hn⟩
theorem runR_keep : ∀ {l : List Int} {i j : Nat} {out o' : List Int} {st s' : List (Nat × Int)}, out.length = i → j < i → (∀ p ∈ st, p.1 ≠ j) → runR l i out st = some (o', s') → o'.getD j 0 = out.getD j 0
  | [], i, j, out, o', st, s', ho, hj, hn, h => by cases h; rfl
  | c :: l, i, j, out, o', st, s', ho, hj, hn, h => by
    simp only [runR, Option.bind_eq_some_iff] at h
    obtain ⟨⟨o1, s1⟩, h1, h2⟩ := h
    have hl := (stepR_len h1).1
    obtain ⟨k1, k2⟩ := stepR_keep ho hj hn h1
    rw [runR_keep (show o1.length = i + 1 by omega) (by omega) k2 h2, k1]
/-- One step over open blocks that it does not close, in its own place. -/
theorem stepR_own {y : Int} {j k : Nat} {o outG o1 : List Int} {s base s1 : List (Nat × Int)} (hs : s ≠ [] ∨ (y ≠ 12 ∧ y ≠ 13)) (h : stepR y (k + j) outG (shS k s ++ base) = some (o1, s1)) :
    ∃ o2 s2, stepR y j o s = some (o2, s2) ∧ s1 = shS k s2 ++ base := by
  unfold stepR at h ⊢
  by_cases h1 : y = 10 ∨ y = 11
  · rw [if_pos h1] at h ⊢
    split at h
    · cases h
    · rename_i h2
      cases h
      rw [if_neg (by simp only [shS, List.length_append, List.length_map] at h2; omega)]
      exact ⟨_, _, rfl, by simp [shS]⟩
  · rw [if_neg h1] at h ⊢
    by_cases h2 : y = 12
    · rw [if_pos h2] at h ⊢
      cases s with
      | nil => rcases hs with hs | hs; exact absurd rfl hs; exact absurd h2 hs.1
      | cons p s =>
        obtain ⟨x, cx⟩ := p
        simp only [shS, List.map_cons, List.cons_append] at h
        split at h
        · rename_i h3
          cases h
          simp only
          rw [if_pos h3]
          exact ⟨_, _, rfl, by simp [shS]⟩
        · cases h
    · rw [if_neg h2] at h ⊢
      by_cases h3 : y = 13
      · rw [if_pos h3] at h ⊢
        cases s with
        | nil => rcases hs with hs | hs; exact absurd rfl hs; exact absurd h3 hs.2
        | cons p s =>
          obtain ⟨x, cx⟩ := p
          simp only [shS, List.map_cons, List.cons_append] at h
          cases h
          exact ⟨_, _, rfl, rfl⟩
      · rw [if_neg h3] at h ⊢
        cases h
        exact ⟨_, _, rfl, rfl⟩
theorem runR_close {i : Nat} {c : Int} {st : List (Nat × Int)} {m : List Int} (hst : ∀ p ∈ st, p.1 < i) : ∀ (B X0 : List Int) (o : List Int) (s : List (Nat × Int)) (outG : List Int), runR X0 0 [] [] = some (o, s) → outG.length = i + 1 + X0.length →
    runR B (i + 1 + X0.length) outG (shS (i + 1) s ++ (i, c) :: st) = some (m, []) →
    ∃ n o2, runR ((X0 ++ B).take n) 0 [] [] = some (o2, []) ∧ m.getD i 0 = ((i + 1 + n : Nat) : Int) ∧ n ≤ (X0 ++ B).length
  | [], X0, o, s, outG, hX, hl, h => by
    simp only [runR, Option.some.injEq, Prod.mk.injEq] at h
    exact absurd h.2 (by simp)
  | y :: B, X0, o, s, outG, hX, hl, h => by
    have h0 := h
    simp only [runR, Option.bind_eq_some_iff] at h
    obtain ⟨⟨o1, s1⟩, h1, h2⟩ := h
    have l1 := (stepR_len h1).1
    by_cases hc : s = [] ∧ (y = 12 ∨ y = 13)
    · obtain ⟨rfl, hy⟩ := hc
      refine ⟨X0.length, o, by rw [List.take_left']; exact hX; rfl, ?_, by simp⟩
      have q : o1.getD i 0 = ((i + 1 + X0.length : Nat) : Int) ∧ ∀ p ∈ s1, p.1 ≠ i := by
        unfold stepR at h1
        rw [if_neg (by omega)] at h1
        simp only [shS, List.map_nil, List.nil_append] at h1
        rcases hy with rfl | rfl
        · rw [if_pos rfl] at h1
          split at h1
          · cases h1
            refine ⟨getD_set_s (by simp; omega), fun p hp => ?_⟩
            rcases List.mem_cons.1 hp with rfl | hp
            · simp only; omega
            · have := hst p hp; omega
          · cases h1
        · rw [if_neg (by decide), if_pos rfl] at h1
          cases h1
          exact ⟨getD_set_s (by simp; omega), fun p hp => by have := hst p hp; omega⟩
      have hk := runR_keep (show o1.length = i + 1 + X0.length + 1 by omega) (show i < i + 1 + X0.length + 1 by omega) q.2 h2
      rw [hk, q.1]
    · have hown : s ≠ [] ∨ (y ≠ 12 ∧ y ≠ 13) := by
        by_cases hs : s = []
        · right
          refine ⟨fun e => hc ⟨hs, .inl e⟩, fun e => hc ⟨hs, .inr e⟩⟩
        · exact .inl hs
      have lX := (runR_len hX).1
      simp only [List.length_nil, Nat.zero_add] at lX
      obtain ⟨o2, s2, e1, e2⟩ := stepR_own (o := o) hown h1
      have hX1 : runR (X0 ++ [y]) 0 [] [] = some (o2, s2) := by
        rw [runR_app, hX, Option.bind_some, Nat.zero_add]
        simp only [runR, e1, Option.bind_some]
      have := runR_close hst B (X0 ++ [y]) o2 s2 o1 hX1 (by simp; omega) (by
        rw [← e2, show i + 1 + (X0 ++ [y]).length = i + 1 + X0.length + 1 by simp; omega]; exact h2)
      simpa [List.append_assoc] using this
/-- What lies between a pair matches. -/
theorem inner_ok {ops : List Ins} {m : List Int} {i : Nat} (h5 : ops.length ≤ 5000) (h : matchS ops = some m) (hi : i < ops.length) (hgt : (i : Int) < m.getD i 0) :
    ∃ e : Nat, m.getD i 0 = e ∧ i < e ∧ e ≤ ops.length ∧ ∃ q, matchS ((ops.drop (i + 1)).take (e - (i + 1))) = some q := by
  rw [matchS_run h5] at h
  have h := finR_some h
  have hd : ops.drop i = ops.getD i nilI :: ops.drop (i + 1) := by
    rw [List.drop_eq_getElem_cons hi, List.getD_eq_getElem?_getD, List.getElem?_eq_getElem hi]; rfl
  generalize ops.getD i nilI = x at hd
  have hlt : (ops.take i).length = i := by simp; omega
  rw [show cds ops = cds (ops.take i) ++ cds (ops.drop i) by rw [← cds_app, List.take_append_drop], runR_app, Option.bind_eq_some_iff] at h
  obtain ⟨⟨oA, sA⟩, hA, hB⟩ := h
  have lA := (runR_len hA).1
  have sA' := runR_lt (by simp) hA
  simp only [Nat.zero_add, cds_len, hlt, List.length_nil] at sA' lA hB
  rw [hd] at hB
  show ∃ e : Nat, _
  simp only [cds, List.map_cons, runR, Option.bind_eq_some_iff] at hB
  obtain ⟨⟨o1, s1⟩, h1, h2⟩ := hB
  have l1 := (stepR_len h1).1
  -- what is not open now is as it stands
  have plain : (∀ p ∈ s1, p.1 ≠ i) → o1.getD i 0 = (i : Int) → False := fun hs ho => by
    have := runR_keep (show o1.length = i + 1 by omega) (by omega) hs h2
    rw [this, ho] at hgt
    omega
  have go : ∀ c st, s1 = (i, c) :: st → (∀ p ∈ st, p.1 < i) → ∃ e : Nat, m.getD i 0 = e ∧ i < e ∧ e ≤ ops.length ∧ ∃ q, matchS ((ops.drop (i + 1)).take (e - (i + 1))) = some q := fun c st hs hst => by
    obtain ⟨n, o2, k1, k2, k3⟩ := runR_close (c := c) (m := m) hst (cds (ops.drop (i + 1))) [] [] [] o1 rfl (by simp; omega) (by rw [hs] at h2; exact h2)
    simp only [List.nil_append, cds_len, List.length_drop] at k1 k3
    refine ⟨i + 1 + n, k2, by omega, by omega, o2, ?_⟩
    rw [matchS_run (by simp; omega), show i + 1 + n - (i + 1) = n by omega]
    have : cds ((ops.drop (i + 1)).take n) = (cds (ops.drop (i + 1))).take n := by simp [cds, List.map_take]
    rw [this, k1]; rfl
  have new : ∀ z : List Int, z.length = i → (z ++ [(i : Int)]).getD i 0 = (i : Int) := fun z hz => by
    rw [List.getD_eq_getElem?_getD, List.getElem?_append_right (by omega), hz]; simp
  unfold stepR at h1
  repeat' split at h1
  all_goals first | cases h1 | skip
  · exact go _ _ rfl sA'
  · exact go _ _ rfl fun p hp => sA' p (by simp [hp])
  · refine (plain (fun p hp => by have := sA' p (by simp [hp]); omega) ?_).elim
    rw [getD_set_n (fun e => by have := sA' _ (List.mem_cons_self ..); simp only at this; omega)]
    exact new _ lA
  · exact (plain (fun p hp => by have := sA' p hp; omega) (new _ lA)).elim
end Go.Proofs.YtohiagaclfaolaaDoor.Tx

/- The law of Insert. -/
namespace Go.Proofs.YtohiagaclfaolaaDoor.Tx
open Go.Proofs.YtohiagaclfaolaaDoor
open Go Go.Fw Bm
set_option maxRecDepth 20000
noncomputable def Yi : Env := envJ (P := Tryd.prog) jkV zer (fun _ => false) (fun _ => false) [con6, con7, con8] []
theorem Yi_ok : EnvOk Tryd.prog Yi := envJOk zer_ok
theorem ins_len {k : Nat} {mm m : List Int} : (insO k mm.length mm m).length = m.length + mm.length := by
  unfold insO
  simp only [List.length_append, List.length_map, List.length_take, List.length_drop]
  omega
theorem ins_get {k n i : Nat} {mm m : List Int} (hm : mm.length = n) (hk : k ≤ m.length) (hi : i < m.length) : (insO k n mm m).getD (upN k n i) 0 = upI k n (m.getD i 0) := by
  have e := ins_set (v := m.getD i 0) (mm := mm) hm hk hi
  have h2 : m.set i (m.getD i 0) = m := by
    rw [List.getD_eq_getElem?_getD, List.getElem?_eq_getElem hi]; simp
  rw [h2] at e
  have hl : upN k n i < (insO k n mm m).length := by
    unfold insO upN
    simp only [List.length_append, List.length_map, List.length_take, List.length_drop, hm]
    split <;> omega
  rw [← e, getD_set_s hl]
theorem opsV_app (a b : List Ins) : opsV a ++ opsV b = opsV (a ++ b) := by simp [opsV]
theorem opsV_take (a : List Ins) (k : Nat) : (opsV a).take k = opsV (a.take k) := by simp [opsV, List.map_take]
theorem opsV_drop (a : List Ins) (k : Nat) : (opsV a).drop k = opsV (a.drop k) := by simp [opsV, List.map_drop]
set_option maxHeartbeats 8000000 in
theorem law4_pc {l l2 : List Ins} {at_ : Int} (h1 : FewP l) (h2 : FewP l2) (ha : 0 ≤ at_ ∧ at_ ≤ 255) : PC Tryd.prog 4 [.sl false 6 (opsV l), .sl false 6 (opsV l2), .lit (.int .u8 at_)] (.lit (.bool true)) := by
  cases hF : fewO 30 l with
  | false =>
    refine pcR Yi_ok (kp4) Tryd.func4 [.tmp 6] (h := fun KF => ?_)
    unfold Yi
    repeat' (first
     | (with_reducible first | refine nx ?_ | refine t_seq fun K => ?_ | refine t_br (fun hc => ?_) fun hc => ?_ | refine t_bx ?_ | apply And.intro | intro vr) | exact kpd
     | ((with_reducible first | refine ny ?_ | refine t_kLF ?_ ?_ | refine t_drawE (id := 12) (fun i => i == 0) [(0, 1), (1, 1), (2, 1), (3, 1), (5, 1), (7, 1), (8, 1), (9, 1), (4, 0), (6, 0), (10, 0), (11, 1)] (by kernel_rfl) fun K => ?_ | refine t_dwh (h := fun K KL => ?_)); intros; simp only [go_sem, kp4, geff, hF, yes]))
    all_goals try exact nd
    all_goals (refine nl ?_; simp only [go_sem])
    exact LeA.refl _
  | true =>
    cases hF2 : fewO 30 l2 with
    | false =>
      refine pcR Yi_ok (kp4) Tryd.func4 [.tmp 6] (h := fun KF => ?_)
      unfold Yi
      repeat' (first
       | (with_reducible first | refine nx ?_ | refine t_seq fun K => ?_ | refine t_br (fun hc => ?_) fun hc => ?_ | refine t_bx ?_ | apply And.intro | intro vr) | exact kpd
       | ((with_reducible first | refine ny ?_ | refine t_kLF ?_ ?_ | refine t_drawE (id := 12) (fun i => i == 0) [(0, 1), (1, 1), (2, 1), (3, 1), (5, 1), (7, 1), (8, 1), (9, 1), (4, 0), (6, 0), (10, 0), (11, 1)] (by kernel_rfl) fun K => ?_ | refine t_dwh (h := fun K KL => ?_)); intros; simp only [go_sem, kp4, geff, hF, hF2, yes]))
      all_goals try exact nd
      all_goals (refine nl ?_; simp only [go_sem])
      exact LeA.refl _
    | true =>
      have h30 := few_len (n := 30) hF
      have h302 := few_len (n := 30) hF2
      cases hm : matchS l with
      | none =>
        obtain ⟨q, hV2⟩ := matchV_eq l2
        have hV : matchV l = .tup [.sl false 1 [], .lit (.bool false)] := by unfold matchV; rw [hm]
        refine pcR Yi_ok (kp4) Tryd.func4 [.tmp 6] (h := fun KF => ?_)
        unfold Yi
        repeat' (first
         | (with_reducible first | refine nx ?_ | refine t_seq fun K => ?_ | refine t_br (fun hc => ?_) fun hc => ?_ | refine t_bx ?_ | apply And.intro | intro vr) | exact kpd
         | ((with_reducible first | refine ny ?_ | refine t_kLF ?_ ?_ | refine t_drawE (id := 12) (fun i => i == 0) [(0, 1), (1, 1), (2, 1), (3, 1), (5, 1), (7, 1), (8, 1), (9, 1), (4, 0), (6, 0), (10, 0), (11, 1)] (by kernel_rfl) fun K => ?_ | refine t_dwh (h := fun K KL => ?_)); intros; simp only [go_sem, kp4, geff, hF, hF2, hV, hV2, yes]))
        all_goals try exact nd
        all_goals (refine nl ?_; simp only [go_sem])
        exact LeA.refl _
      | some m =>
        have hV : matchV l = .tup [.sl false 1 (ints .i64 m), .lit (.bool true)] := by unfold matchV; rw [hm]
        have hml := (match_nest hm).len
        cases hm2 : matchS l2 with
        | none =>
          have hV2 : matchV l2 = .tup [.sl false 1 [], .lit (.bool false)] := by unfold matchV; rw [hm2]
          refine pcR Yi_ok (kp4) Tryd.func4 [.tmp 6] (h := fun KF => ?_)
          unfold Yi
          repeat' (first
           | (with_reducible first | refine nx ?_ | refine t_seq fun K => ?_ | refine t_br (fun hc => ?_) fun hc => ?_ | refine t_bx ?_ | apply And.intro | intro vr) | exact kpd
           | ((with_reducible first | refine ny ?_ | refine t_kLF ?_ ?_ | refine t_drawE (id := 12) (fun i => i == 0) [(0, 1), (1, 1), (2, 1), (3, 1), (5, 1), (7, 1), (8, 1), (9, 1), (4, 0), (6, 0), (10, 0), (11, 1)] (by kernel_rfl) fun K => ?_ | refine t_dwh (h := fun K KL => ?_)); intros; simp only [go_sem, kp4, geff, hF, hF2, hV, hV2, yes]))
          all_goals try exact nd
          all_goals (refine nl ?_; simp only [go_sem])
          exact LeA.refl _
        | some mm =>
          have hV2 : matchV l2 = .tup [.sl false 1 (ints .i64 mm), .lit (.bool true)] := by unfold matchV; rw [hm2]
          have hnm : ((m.length : Int) != (l.length : Int)) = false := by rw [hml]; simp
          obtain ⟨k, hk, hkl⟩ : ∃ k : Nat, (IntKind.i64.wrap at_).tmod ((l.length : Int) + 1) = (k : Int) ∧ k ≤ l.length := by
            have hw : IntKind.i64.wrap at_ = at_ := by
              obtain ⟨a, rfl⟩ : ∃ a : Nat, at_ = a := ⟨at_.toNat, by omega⟩
              have : ∀ a < 256, IntKind.i64.wrap ((a : Nat) : Int) = a := by decide +kernel
              exact this a (by omega)
            rw [hw]
            have h1 := Int.tmod_nonneg ((l.length : Int) + 1) ha.1
            have h2 := Int.tmod_lt_of_pos at_ (show 0 < (l.length : Int) + 1 by omega)
            exact ⟨(at_.tmod ((l.length : Int) + 1)).toNat, by omega, by omega⟩
          have hkn : ((k : Int)).toNat = k := Int.toNat_natCast k
          have hT0 : l.take l.length = l := List.take_length
          have hTk : (l.take k).length = k := by simp; omega
          have hDk : (l.drop k).length = l.length - k := by simp
          have hal : (l.take k ++ l2 ++ l.drop k).length = l.length + l2.length := by simp; omega
          have hB := insert_ok (k := k) (by omega) hkl hm hm2
          generalize hall : l.take k ++ l2 ++ l.drop k = all at hal hB
          rcases hB with hB | ⟨hB, h40⟩
          · have hV3 : matchV all = .tup [.sl false 1 (ints .i64 (insO k l2.length (shO k mm) m)), .lit (.bool true)] := by unfold matchV; rw [hB]
            have lmm : (shO k mm).length = l2.length := by rw [shO, List.length_map]; exact (match_nest hm2).len
            have lI : (insO k l2.length (shO k mm) m).length = l.length + l2.length := by
              have := ins_len (k := k) (mm := shO k mm) (m := m)
              rw [lmm] at this; omega
            have hnI : (((l.length + l2.length : Nat) : Int) != ((l.length + l2.length : Nat) : Int)) = false := by simp
            generalize hIns : insO k l2.length (shO k mm) m = I at hV3 lI
            refine pcR Yi_ok (kp4) Tryd.func4 [.tmp 6] (h := fun KF => ?_)
            unfold Yi
            repeat' (first
             | (with_reducible first | refine nx ?_ | refine t_seq fun K => ?_ | refine t_br (fun hc => ?_) fun hc => ?_ | refine t_bx ?_ | apply And.intro | intro vr) | exact kpd
             | ((with_reducible first | refine ny ?_ | refine t_kLF ?_ ?_ | refine t_drawE (id := 12) (fun i => i == 0) [(0, 1), (1, 1), (2, 1), (3, 1), (5, 1), (7, 1), (8, 1), (9, 1), (4, 0), (6, 0), (10, 0), (11, 1)] (by kernel_rfl) fun K => ?_ | refine t_dwh (h := fun K KL => ?_)); intros; simp only [go_sem, kp4, geff, hF, hF2, hV, hV2, hV3, hnm, ints_length, hk, hkn, opsV_app, opsV_take, opsV_drop, hT0, hTk, hDk, hall, hal, List.nil_append, lI, hnI, yes]))
            all_goals try (first | (with_reducible assumption) | (intros; (try simp only [Bool.and_eq_true, Bool.or_eq_true, Bool.or_eq_false_iff, Bool.not_eq_true', Bool.not_eq_false', decide_eq_true_eq, decide_eq_false_iff_not, beq_iff_eq, beq_eq_false_iff_ne, bne_iff_ne, bne_eq_false_iff_eq, ne_eq, inI64, List.length_append, List.length_nil] at *) <;> omega) | (intros; (with_reducible first | refine impB_ofR ?_ | refine and_ofB ?_ ?_) <;> with_reducible first | assumption | (refine impB_ofR ?_; assumption)) | ((try simp only [Bool.and_eq_true] at vr); simp only [impB, vr, Bool.or_true, Bool.true_or, Bool.and_self, Bool.not_true, Bool.not_false, Bool.and_true]; done))
            refine t_loopF (ι := { i : Nat // i ≤ l.length }) (fun i => [(94, .lit (.int .i64 i.1))]) (fun i => [.arr 32 6 (opsV all) 2 true]) (fun i => l.length - i.1) ⟨0, by omega⟩ ?_ ?_
            · exact lf
            rintro ⟨i, hi⟩ K0
            rcases Nat.lt_or_ge i l.length with hc | hc
            · have g3 : decide ((i : Int) < (l.length : Int)) = true := decide_eq_true (by omega)
              obtain ⟨e, he, hie, hel⟩ : ∃ e : Nat, m.getD i 0 = (e : Int) ∧ i ≤ e ∧ e < l.length := by
                have hN := match_nest hm
                cases ho : opnr (cd l i) with
                | false => exact ⟨i, hN.self i hc ho, Nat.le_refl i, hc⟩
                | true =>
                  obtain ⟨e, q1, q2, q3, _⟩ := hN.clo i hc ho
                  exact ⟨e, q1, by omega, q3⟩
              have hgI := ins_get (k := k) (i := i) (m := m) lmm (by omega) (by omega)
              rw [hIns, he, upI_nat] at hgI
              have g4 : decide ((e : Int) < (i : Int)) = false := decide_eq_false (by omega)
              have g5 : decide ((e : Int) ≥ (l.length : Int)) = false := decide_eq_false (by omega)
              have hp : ((i : Int) + (l2.length : Int)).toNat = i + l2.length := by omega
              have hi1 : ((i : Int) + 1).toNat = i + 1 := by omega
              have hen : ((e : Int)).toNat = e := Int.toNat_natCast e
              have hin : ((i : Int)).toNat = i := Int.toNat_natCast i
              rcases Nat.lt_or_ge i e with hg | hg
              · obtain ⟨e', q1, _, _, q, q4⟩ := inner_ok (by omega) hm hc (by rw [he]; omega)
                have hee : e' = e := by rw [he] at q1; omega
                subst hee
                have hdt : (l.take e').drop (i + 1) = (l.drop (i + 1)).take (e' - (i + 1)) := by rw [List.drop_take]
                have hV4 : matchV ((l.take e').drop (i + 1)) = .tup [.sl false 1 (ints .i64 q), .lit (.bool true)] := by unfold matchV; rw [hdt, q4]
                have hVl : ((l.take e').drop (i + 1)).length ≤ 1000000 := by simp; omega
                rcases Nat.lt_or_ge i k with hk1 | hk1
                · rcases Nat.lt_or_ge e' k with hk2 | hk2
                  · have gk : decide ((i : Int) ≥ (k : Int)) = false := decide_eq_false (by omega)
                    have gq : decide ((e' : Int) ≥ (k : Int)) = false := decide_eq_false (by omega)
                    have hgI := hgI
                    rw [upN, if_neg (by omega), upN, if_neg (by omega)] at hgI
                    have hne : ((e' : Int) != (e' : Int)) = false := by simp
                    have gg : decide ((e' : Int) > (i : Int)) = true := decide_eq_true (by omega)
                    repeat' (first
                     | (with_reducible first | refine nx ?_ | refine t_seq fun K => ?_ | refine t_br (fun hc => ?_) fun hc => ?_ | refine t_bx ?_ | apply And.intro | intro vr) | exact kpd
                     | ((with_reducible first | refine ny ?_ | refine t_kLF ?_ ?_ | refine t_drawE (id := 12) (fun i => i == 0) [(0, 1), (1, 1), (2, 1), (3, 1), (5, 1), (7, 1), (8, 1), (9, 1), (4, 0), (6, 0), (10, 0), (11, 1)] (by kernel_rfl) fun K => ?_ | refine t_dwh (h := fun K KL => ?_)); intros; simp only [go_sem, kp4, geff, g3, g4, g5, he, hp, hi1, hen, hin, hgI, hne, opsV_take, opsV_drop, opsV_length, ints_length, lI, gk, gq, gg, hV4, yes]))
                    all_goals try (first | (with_reducible assumption) | (intros; (try simp only [Bool.and_eq_true, Bool.or_eq_true, Bool.or_eq_false_iff, Bool.not_eq_true', Bool.not_eq_false', decide_eq_true_eq, decide_eq_false_iff_not, beq_iff_eq, beq_eq_false_iff_ne, bne_iff_ne, bne_eq_false_iff_eq, ne_eq, inI64, List.length_append, List.length_nil, List.length_take, List.length_drop] at *) <;> omega) | (intros; (with_reducible first | refine impB_ofR ?_ | refine and_ofB ?_ ?_) <;> with_reducible first | assumption | (refine impB_ofR ?_; assumption)) | ((try simp only [Bool.and_eq_true] at vr); simp only [impB, vr, Bool.or_true, Bool.true_or, Bool.and_self, Bool.not_true, Bool.not_false, Bool.and_true]; done))
                    exact ⟨⟨i + 1, by omega⟩, wf, lf⟩
                  · have gk : decide ((i : Int) ≥ (k : Int)) = false := decide_eq_false (by omega)
                    have gq : decide ((e' : Int) ≥ (k : Int)) = true := decide_eq_true (by omega)
                    have hgI := hgI
                    rw [upN, if_neg (by omega), upN, if_pos (by omega)] at hgI
                    rw [Int.natCast_add] at hgI
                    have hne : (((e' : Int) + (l2.length : Int)) != ((e' : Int) + (l2.length : Int))) = false := by simp
                    have gg : decide ((e' : Int) > (i : Int)) = true := decide_eq_true (by omega)
                    repeat' (first
                     | (with_reducible first | refine nx ?_ | refine t_seq fun K => ?_ | refine t_br (fun hc => ?_) fun hc => ?_ | refine t_bx ?_ | apply And.intro | intro vr) | exact kpd
                     | ((with_reducible first | refine ny ?_ | refine t_kLF ?_ ?_ | refine t_drawE (id := 12) (fun i => i == 0) [(0, 1), (1, 1), (2, 1), (3, 1), (5, 1), (7, 1), (8, 1), (9, 1), (4, 0), (6, 0), (10, 0), (11, 1)] (by kernel_rfl) fun K => ?_ | refine t_dwh (h := fun K KL => ?_)); intros; simp only [go_sem, kp4, geff, g3, g4, g5, he, hp, hi1, hen, hin, hgI, hne, opsV_take, opsV_drop, opsV_length, ints_length, lI, gk, gq, gg, hV4, yes]))
                    all_goals try (first | (with_reducible assumption) | (intros; (try simp only [Bool.and_eq_true, Bool.or_eq_true, Bool.or_eq_false_iff, Bool.not_eq_true', Bool.not_eq_false', decide_eq_true_eq, decide_eq_false_iff_not, beq_iff_eq, beq_eq_false_iff_ne, bne_iff_ne, bne_eq_false_iff_eq, ne_eq, inI64, List.length_append, List.length_nil, List.length_take, List.length_drop] at *) <;> omega) | (intros; (with_reducible first | refine impB_ofR ?_ | refine and_ofB ?_ ?_) <;> with_reducible first | assumption | (refine impB_ofR ?_; assumption)) | ((try simp only [Bool.and_eq_true] at vr); simp only [impB, vr, Bool.or_true, Bool.true_or, Bool.and_self, Bool.not_true, Bool.not_false, Bool.and_true]; done))
                    exact ⟨⟨i + 1, by omega⟩, wf, lf⟩
                · have gk : decide ((i : Int) ≥ (k : Int)) = true := decide_eq_true (by omega)
                  have gq : decide ((e' : Int) ≥ (k : Int)) = true := decide_eq_true (by omega)
                  have hgI := hgI
                  rw [upN, if_pos (by omega), upN, if_pos (by omega)] at hgI
                  rw [Int.natCast_add] at hgI
                  have hne : (((e' : Int) + (l2.length : Int)) != ((e' : Int) + (l2.length : Int))) = false := by simp
                  have gg : decide ((e' : Int) > (i : Int)) = true := decide_eq_true (by omega)
                  repeat' (first
                   | (with_reducible first | refine nx ?_ | refine t_seq fun K => ?_ | refine t_br (fun hc => ?_) fun hc => ?_ | refine t_bx ?_ | apply And.intro | intro vr) | exact kpd
                   | ((with_reducible first | refine ny ?_ | refine t_kLF ?_ ?_ | refine t_drawE (id := 12) (fun i => i == 0) [(0, 1), (1, 1), (2, 1), (3, 1), (5, 1), (7, 1), (8, 1), (9, 1), (4, 0), (6, 0), (10, 0), (11, 1)] (by kernel_rfl) fun K => ?_ | refine t_dwh (h := fun K KL => ?_)); intros; simp only [go_sem, kp4, geff, g3, g4, g5, he, hp, hi1, hen, hin, hgI, hne, opsV_take, opsV_drop, opsV_length, ints_length, lI, gk, gq, gg, hV4, yes]))
                  all_goals try (first | (with_reducible assumption) | (intros; (try simp only [Bool.and_eq_true, Bool.or_eq_true, Bool.or_eq_false_iff, Bool.not_eq_true', Bool.not_eq_false', decide_eq_true_eq, decide_eq_false_iff_not, beq_iff_eq, beq_eq_false_iff_ne, bne_iff_ne, bne_eq_false_iff_eq, ne_eq, inI64, List.length_append, List.length_nil, List.length_take, List.length_drop] at *) <;> omega) | (intros; (with_reducible first | refine impB_ofR ?_ | refine and_ofB ?_ ?_) <;> with_reducible first | assumption | (refine impB_ofR ?_; assumption)) | ((try simp only [Bool.and_eq_true] at vr); simp only [impB, vr, Bool.or_true, Bool.true_or, Bool.and_self, Bool.not_true, Bool.not_false, Bool.and_true]; done))
                  exact ⟨⟨i + 1, by omega⟩, wf, lf⟩
              · rcases Nat.lt_or_ge i k with hk1 | hk1
                · rcases Nat.lt_or_ge e k with hk2 | hk2
                  · have gk : decide ((i : Int) ≥ (k : Int)) = false := decide_eq_false (by omega)
                    have gq : decide ((e : Int) ≥ (k : Int)) = false := decide_eq_false (by omega)
                    have hgI := hgI
                    rw [upN, if_neg (by omega), upN, if_neg (by omega)] at hgI
                    have hne : ((e : Int) != (e : Int)) = false := by simp
                    have gg : decide ((e : Int) > (i : Int)) = false := decide_eq_false (by omega)
                    repeat' (first
                     | (with_reducible first | refine nx ?_ | refine t_seq fun K => ?_ | refine t_br (fun hc => ?_) fun hc => ?_ | refine t_bx ?_ | apply And.intro | intro vr) | exact kpd
                     | ((with_reducible first | refine ny ?_ | refine t_kLF ?_ ?_ | refine t_drawE (id := 12) (fun i => i == 0) [(0, 1), (1, 1), (2, 1), (3, 1), (5, 1), (7, 1), (8, 1), (9, 1), (4, 0), (6, 0), (10, 0), (11, 1)] (by kernel_rfl) fun K => ?_ | refine t_dwh (h := fun K KL => ?_)); intros; simp only [go_sem, kp4, geff, g3, g4, g5, he, hp, hi1, hen, hin, hgI, hne, opsV_take, opsV_drop, opsV_length, ints_length, lI, gk, gq, gg, yes]))
                    all_goals try (first | (with_reducible assumption) | (intros; (try simp only [Bool.and_eq_true, Bool.or_eq_true, Bool.or_eq_false_iff, Bool.not_eq_true', Bool.not_eq_false', decide_eq_true_eq, decide_eq_false_iff_not, beq_iff_eq, beq_eq_false_iff_ne, bne_iff_ne, bne_eq_false_iff_eq, ne_eq, inI64, List.length_append, List.length_nil, List.length_take, List.length_drop] at *) <;> omega) | (intros; (with_reducible first | refine impB_ofR ?_ | refine and_ofB ?_ ?_) <;> with_reducible first | assumption | (refine impB_ofR ?_; assumption)) | ((try simp only [Bool.and_eq_true] at vr); simp only [impB, vr, Bool.or_true, Bool.true_or, Bool.and_self, Bool.not_true, Bool.not_false, Bool.and_true]; done))
                    exact ⟨⟨i + 1, by omega⟩, wf, lf⟩
                  · omega
                · have gk : decide ((i : Int) ≥ (k : Int)) = true := decide_eq_true (by omega)
                  have gq : decide ((e : Int) ≥ (k : Int)) = true := decide_eq_true (by omega)
                  have hgI := hgI
                  rw [upN, if_pos (by omega), upN, if_pos (by omega)] at hgI
                  rw [Int.natCast_add] at hgI
                  have hne : (((e : Int) + (l2.length : Int)) != ((e : Int) + (l2.length : Int))) = false := by simp
                  have gg : decide ((e : Int) > (i : Int)) = false := decide_eq_false (by omega)
                  repeat' (first
                   | (with_reducible first | refine nx ?_ | refine t_seq fun K => ?_ | refine t_br (fun hc => ?_) fun hc => ?_ | refine t_bx ?_ | apply And.intro | intro vr) | exact kpd
                   | ((with_reducible first | refine ny ?_ | refine t_kLF ?_ ?_ | refine t_drawE (id := 12) (fun i => i == 0) [(0, 1), (1, 1), (2, 1), (3, 1), (5, 1), (7, 1), (8, 1), (9, 1), (4, 0), (6, 0), (10, 0), (11, 1)] (by kernel_rfl) fun K => ?_ | refine t_dwh (h := fun K KL => ?_)); intros; simp only [go_sem, kp4, geff, g3, g4, g5, he, hp, hi1, hen, hin, hgI, hne, opsV_take, opsV_drop, opsV_length, ints_length, lI, gk, gq, gg, yes]))
                  all_goals try (first | (with_reducible assumption) | (intros; (try simp only [Bool.and_eq_true, Bool.or_eq_true, Bool.or_eq_false_iff, Bool.not_eq_true', Bool.not_eq_false', decide_eq_true_eq, decide_eq_false_iff_not, beq_iff_eq, beq_eq_false_iff_ne, bne_iff_ne, bne_eq_false_iff_eq, ne_eq, inI64, List.length_append, List.length_nil, List.length_take, List.length_drop] at *) <;> omega) | (intros; (with_reducible first | refine impB_ofR ?_ | refine and_ofB ?_ ?_) <;> with_reducible first | assumption | (refine impB_ofR ?_; assumption)) | ((try simp only [Bool.and_eq_true] at vr); simp only [impB, vr, Bool.or_true, Bool.true_or, Bool.and_self, Bool.not_true, Bool.not_false, Bool.and_true]; done))
                  exact ⟨⟨i + 1, by omega⟩, wf, lf⟩
            · have g3 : decide ((i : Int) < (l.length : Int)) = false := decide_eq_false (by omega)
              repeat' (first
               | (with_reducible first | refine nx ?_ | refine t_seq fun K => ?_ | refine t_br (fun hc => ?_) fun hc => ?_ | refine t_bx ?_ | apply And.intro | intro vr) | exact kpd
               | ((with_reducible first | refine ny ?_ | refine t_kLF ?_ ?_ | refine t_drawE (id := 12) (fun i => i == 0) [(0, 1), (1, 1), (2, 1), (3, 1), (5, 1), (7, 1), (8, 1), (9, 1), (4, 0), (6, 0), (10, 0), (11, 1)] (by kernel_rfl) fun K => ?_ | refine t_dwh (h := fun K KL => ?_)); intros; simp only [go_sem, kp4, geff, g3, yes]))
              all_goals try exact nd
              all_goals (refine nl ?_; simp only [go_sem])
              exact LeA.refl _
          · have hV3 : matchV all = .tup [.sl false 1 [], .lit (.bool false)] := by unfold matchV; rw [hB]
            have g40 : decide ((l.length : Int) + (l2.length : Int) > 40) = true := decide_eq_true (by omega)
            refine pcR Yi_ok (kp4) Tryd.func4 [.tmp 6] (h := fun KF => ?_)
            unfold Yi
            repeat' (first
             | (with_reducible first | refine nx ?_ | refine t_seq fun K => ?_ | refine t_br (fun hc => ?_) fun hc => ?_ | refine t_bx ?_ | apply And.intro | intro vr) | exact kpd
             | ((with_reducible first | refine ny ?_ | refine t_kLF ?_ ?_ | refine t_drawE (id := 12) (fun i => i == 0) [(0, 1), (1, 1), (2, 1), (3, 1), (5, 1), (7, 1), (8, 1), (9, 1), (4, 0), (6, 0), (10, 0), (11, 1)] (by kernel_rfl) fun K => ?_ | refine t_dwh (h := fun K KL => ?_)); intros; simp only [go_sem, kp4, geff, hF, hF2, hV, hV2, hV3, hnm, ints_length, hk, hkn, opsV_app, opsV_take, opsV_drop, hT0, hTk, hDk, hall, hal, List.nil_append, g40, yes]))
            all_goals try (first | (with_reducible assumption) | (intros; (try simp only [Bool.and_eq_true, Bool.or_eq_true, Bool.or_eq_false_iff, Bool.not_eq_true', Bool.not_eq_false', decide_eq_true_eq, decide_eq_false_iff_not, beq_iff_eq, beq_eq_false_iff_ne, bne_iff_ne, bne_eq_false_iff_eq, ne_eq, inI64, List.length_append, List.length_nil] at *) <;> omega) | (intros; (with_reducible first | refine impB_ofR ?_ | refine and_ofB ?_ ?_) <;> with_reducible first | assumption | (refine impB_ofR ?_; assumption)) | ((try simp only [Bool.and_eq_true] at vr); simp only [impB, vr, Bool.or_true, Bool.true_or, Bool.and_self, Bool.not_true, Bool.not_false, Bool.and_true]; done))
            all_goals (refine nl ?_; simp only [go_sem])
            exact LeA.refl _
end Go.Proofs.YtohiagaclfaolaaDoor.Tx
